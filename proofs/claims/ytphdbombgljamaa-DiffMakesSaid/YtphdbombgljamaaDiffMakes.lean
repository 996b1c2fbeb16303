/- DiffMakes: the walk of the law; no condition. -/
import Derived.Test.YtphdbombgljamaaDiffT
namespace Go.Proofs.Ytphdbombgljamaa.Df
open Go.RowKit Go.Proofs.YtphdbombgljamaaW.PrintWords Go.Proofs.YtphdbombgljamaaW.PrintLast Go.Proofs.YtphdbombgljamaaW.PrintMore Go.Proofs.Ytphdbombgljamaa.Rf Go.Proofs.Ytphdbombgljamaa.Aid
set_option linter.unusedVariables false
set_option linter.unusedSimpArgs false
set_option maxHeartbeats 400000

theorem mbig {A : Option Addr} {c : Nat} {a : List Int} {B : Option Addr} {d : Nat} {b : List Int} {w : World} (h : 700 < a.length ∨ 700 < b.length) :
    Calls Try.prog 9 #[.slice A a.length c, .slice B b.length d] w fun e w' => e = .returned (.bool true) ∧ Below w.heap.size w w' := by
  have hd : ((700 : Int) < (a.length : Int)) ∨ (¬ (700 : Int) < (a.length : Int) ∧ (700 : Int) < (b.length : Int)) := by omega
  rcases hd with i1 | ⟨i1, i2⟩
  all_goals
    go_enter Try.func9, Try.ntmps9
    go_wp2_with fail
    refine (awake_any _).mono ?_
    rintro e w1 ⟨rfl, hb⟩
    go_wp2
    go_ret
    exact ⟨rfl, hb⟩
theorem applyC {A : Option Addr} {c : Nat} {a b : List Int} {B : Option Addr} {d : Nat} {es : List S43} {m s0 : Nat} {w : World} (hm0 : es.length = m) (hr0 : Kd.C (Kd.int .i64) w A a.length a) (hc0 : a.length ≤ c) (hr1 : Kd.C k43 w B m es) (hc1 : m ≤ d) (ha : a.length ≤ 100000) (hb : b.length ≤ 100000) (hn : m ≤ 2000) (hm : Makes a b 0 0 es s0) :
    Calls Try.prog 32 #[.slice A a.length c, .slice B m d] w fun e w' => ∃ A' c', e = .returned (.tuple #[.slice A' b.length c', .int .i64 0]) ∧ b.length ≤ c' ∧ Kd.C (Kd.int .i64) w' A' b.length b ∧ Below w.heap.size w w' := by
  subst hm0
  refine (diff_Apply.calls (es.length + 1) A c a B d es b 0 w hr0 hc0 hr1 hc1 (apply_some a b es hn hb ha hm _ (Nat.le_refl _))).mono ?_
  rintro e w' ⟨v, rfl, hr, hB⟩
  obtain ⟨A', c', rfl, h1, h2⟩ := Kd.R_reads hr
  exact ⟨A', c', rfl, h1, h2, hB⟩
theorem costC {a b : List Int} {B : Option Addr} {d : Nat} {es : List S43} {m s0 : Nat} {w : World} (hm0 : es.length = m) (hr1 : Kd.C k43 w B m es) (hc1 : m ≤ d) (ha : a.length ≤ 100000) (hb : b.length ≤ 100000) (hn : m ≤ 2000) (hm : Makes a b 0 0 es s0) :
    Calls Try.prog 34 #[.slice B m d] w fun e w' => e = .returned (.int .i64 ((a.length : Int) + b.length - 2 * s0)) ∧ Below w.heap.size w w' := by
  subst hm0
  exact diff_Cost.calls (es.length + 1) B d es _ w hr1 hc1 (cost_some a b es hn hb ha hm _ (Nat.le_refl _))
theorem turnC {A : Option Addr} {c : Nat} {a b : List Int} {B : Option Addr} {d : Nat} {es : List S43} {m s0 : Nat} {w : World} (hm0 : es.length = m) (hr0 : Kd.C (Kd.int .i64) w A a.length a) (hc0 : a.length ≤ c) (hr1 : Kd.C k43 w B m es) (hc1 : m ≤ d) (ha : a.length ≤ 100000) (hb : b.length ≤ 100000) (hn : m ≤ 2000) (hm : Makes a b 0 0 es s0) :
    Calls Try.prog 33 #[.slice A a.length c, .slice B m d] w fun e w' => ∃ A' c', e = .returned (.tuple #[.slice A' m c', .int .i64 0]) ∧ m ≤ c' ∧ Kd.C k43 w' A' m (turnG a 0 es) ∧ Below w.heap.size w w' := by
  subst hm0
  refine (turn_any hr0 hc0 hr1 hc1 ha hb hn hm).mono ?_
  rintro e w' ⟨v, rfl, hr, hB⟩
  obtain ⟨A', c', rfl, h1, h2⟩ := Kd.R_reads hr
  rw [turn_len] at h1 h2
  exact ⟨A', c', by rw [turn_len], h1, h2, hB⟩
theorem beqN (m : Nat) : ((m : Int) == 0) = decide (m = 0) := by rw [Bool.eq_iff_iff]; simp
theorem win_nil (a b : List Int) (h : ¬ (a.length ≤ 500 ∧ b.length ≤ 500)) : decide ((winP a b).length = 0) = decide (a = b) := by
  unfold winP
  rw [if_neg h]
  by_cases e : a = b
  · simp [e]
  · simp [e]
set_option maxRecDepth 100000 in
set_option maxHeartbeats 1000000 in
theorem msmall {A : Option Addr} {c : Nat} {a : List Int} {B : Option Addr} {d : Nat} {b : List Int} {w : World} (hr0 : Kd.C (Kd.int .i64) w A a.length a) (hc0 : a.length ≤ c) (hr1 : Kd.C (Kd.int .i64) w B b.length b) (hc1 : b.length ≤ d) (ha : a.length ≤ 700) (hb : b.length ≤ 700) :
    Calls Try.prog 9 #[.slice A a.length c, .slice B b.length d] w fun e w' => e = .returned (.bool true) ∧ Below w.heap.size w w' := by
  have HR0 := As.mk hr0
  have HR1 := As.mk hr1
  have HC0 := As.mk hc0
  have HC1 := As.mk hc1
  clear hr0 hr1 hc0 hc1
  have i1 : ¬ (700 : Int) < (a.length : Int) := by omega
  have i2 : ¬ (700 : Int) < (b.length : Int) := by omega
  go_enter Try.func9, Try.ntmps9
  go_wp2_with fail
  refine (awake_any _).mono ?_
  rintro e w1 ⟨rfl, hb1⟩
  have HB1 := As.mk hb1
  clear hb1
  go_wp2_with fail
  refine (windows_any (Kd.C_below HR0.out HB1.out) HC0.out (Kd.C_below HR1.out HB1.out) HC1.out (by omega) (by omega)).mono ?_
  have hmk := makes_win a b
  have hml := win_len a b ha
  have hmn := win_nil a b
  generalize hes : winP a b = es at hmk hml hmn ⊢
  clear hes
  obtain ⟨m, hm⟩ : ∃ m, es.length = m := ⟨_, rfl⟩
  rw [hm] at hml hmn ⊢
  have HM := As.mk hm
  have HK := As.mk hmk
  have HN := As.mk hmn
  clear hm hmk hmn i1 i2
  rintro e w2 ⟨A2, c2, rfl, hc2, hs2, hb2⟩
  have HS2 := As.mk hs2
  have HC2 := As.mk hc2
  have HB2 := As.mk (bt_ HB1.out hb2)
  clear hs2 hc2 hb2 HB1
  go_wp2_with fail
  refine (applyC HM.out (Kd.C_below HR0.out HB2.out) HC0.out HS2.out HC2.out (by omega) (by omega) (by omega) HK.out).mono ?_
  rintro e w3 ⟨A3, c3, rfl, hc3, hs3, hb3⟩
  have HS23 := As.mk (Kd.C_below HS2.out hb3)
  have HS3 := As.mk hs3
  have HC3 := As.mk hc3
  have HB3 := As.mk (bt_ HB2.out hb3)
  clear hs3 hc3 hb3 HB2 HS2
  go_wp2_with fail
  refine (turnC HM.out (Kd.C_below HR0.out HB3.out) HC0.out HS23.out HC2.out (by omega) (by omega) (by omega) HK.out).mono ?_
  rintro e w4 ⟨A4, c4, rfl, hc4, hs4, hb4⟩
  have HK4 : As (Makes b a 0 0 (turnG a 0 es) (comP a b)) := As.mk (by have := turn_makes HK.out; simpa using this)
  have HM4 : As ((turnG a 0 es).length = m) := As.mk (by rw [turn_len]; exact HM.out)
  generalize turnG a 0 es = ts at hs4 HK4 HM4
  have HS24 := As.mk (Kd.C_below HS23.out hb4)
  have HS34 := As.mk (Kd.C_below HS3.out hb4)
  have HS4 := As.mk hs4
  have HC4 := As.mk hc4
  have HB4 := As.mk (bt_ HB3.out hb4)
  clear hs4 hc4 hb4 HB3 HS23 HS3
  go_wp2_with fail
  refine (applyC HM4.out (Kd.C_below HR1.out HB4.out) HC1.out HS4.out HC4.out (by omega) (by omega) (by omega) HK4.out).mono ?_
  rintro e w5 ⟨A5, c5, rfl, hc5, hs5, hb5⟩
  have HS25 := As.mk (Kd.C_below HS24.out hb5)
  have HS35 := As.mk (Kd.C_below HS34.out hb5)
  have HS45 := As.mk (Kd.C_below HS4.out hb5)
  have HS5 := As.mk hs5
  have HC5 := As.mk hc5
  have HB5 := As.mk (bt_ HB4.out hb5)
  clear hs5 hc5 hb5 HB4 HS24 HS34 HS4
  go_wp2_with fail
  refine (Hp.ints_any b b A3 B c3 d _ HS35.out HC3.out (Kd.C_below HR1.out HB5.out) HC1.out (by omega)).mono ?_
  rw [decide_eq_true rfl]
  rintro e w6 ⟨rfl, ⟨n6, rfl⟩⟩
  have HS26 := As.mk (Kd.C_drewN HS25.out n6)
  have HS46 := As.mk (Kd.C_drewN HS45.out n6)
  have HS56 := As.mk (Kd.C_drewN HS5.out n6)
  have HB6 := As.mk (pw_below_drewN HB5.out n6)
  clear HB5 HS25 HS35 HS45 HS5
  generalize w5.drewN n6 = w6 at HS26 HS46 HS56 HB6 ⊢
  go_wp2_with fail
  refine (Hp.ints_any a a A5 A c5 c _ HS56.out HC5.out (Kd.C_below HR0.out HB6.out) HC0.out (by omega)).mono ?_
  rw [decide_eq_true rfl]
  rintro e w7 ⟨rfl, ⟨n7, rfl⟩⟩
  have HS27 := As.mk (Kd.C_drewN HS26.out n7)
  have HS47 := As.mk (Kd.C_drewN HS46.out n7)
  have HB7 := As.mk (pw_below_drewN HB6.out n7)
  clear HB6 HS26 HS46 HS56
  generalize w6.drewN n7 = w7 at HS27 HS47 HB7 ⊢
  by_cases hf : a.length ≤ 500 ∧ b.length ≤ 500
  · have i1 : ¬ (500 : Int) < (a.length : Int) := by omega
    have i2 : ¬ (500 : Int) < (b.length : Int) := by omega
    have hcom : comP a b = L a b 0 0 := by unfold comP; rw [if_pos hf]
    have hL := L_le a b 0 0
    have HCO := As.mk hcom
    clear hcom hf
    go_wp2_with fail
    refine (costC HM.out HS27.out HC2.out (by omega) (by omega) (by omega) HK.out).mono ?_
    rw [HCO.out]
    rintro e w8 ⟨rfl, hb8⟩
    have HS28 := As.mk (Kd.C_below HS27.out hb8)
    have HS48 := As.mk (Kd.C_below HS47.out hb8)
    have HB8 := As.mk (bt_ HB7.out hb8)
    clear hb8 HS27 HS47 HB7
    go_wp2_with fail
    refine (common_any (Kd.C_below HR0.out HB8.out) HC0.out (Kd.C_below HR1.out HB8.out) HC1.out (by omega) (by omega)).mono ?_
    rintro e w9 ⟨rfl, hb9⟩
    have HS29 := As.mk (Kd.C_below HS28.out hb9)
    have HS49 := As.mk (Kd.C_below HS48.out hb9)
    have HB9 := As.mk (bt_ HB8.out hb9)
    clear hb9 HS28 HS48 HB8
    have e1 : wrap64 (2 * (L a b 0 0 : Int)) = 2 * (L a b 0 0 : Int) := w64d (by omega) (by omega)
    have e2 : wrap64 ((a.length : Int) + (b.length : Int)) = (a.length : Int) + (b.length : Int) := w64d (by omega) (by omega)
    have e3 : wrap64 ((a.length : Int) + (b.length : Int) - 2 * (L a b 0 0 : Int)) = (a.length : Int) + (b.length : Int) - 2 * (L a b 0 0 : Int) := w64d (by omega) (by omega)
    go_wp2_with fail
    clear e1 e2 e3
    refine (costC HM4.out HS49.out HC4.out (by omega) (by omega) (by omega) HK4.out).mono ?_
    rw [HCO.out]
    rintro e w10 ⟨rfl, hb10⟩
    have HS210 := As.mk (Kd.C_below HS29.out hb10)
    have HB10 := As.mk (bt_ HB9.out hb10)
    clear hb10 HS29 HS49 HB9
    go_wp2_with fail
    refine (costC HM.out HS210.out HC2.out (by omega) (by omega) (by omega) HK.out).mono ?_
    rw [HCO.out]
    rintro e w11 ⟨rfl, hb11⟩
    have HB11 := As.mk (bt_ HB10.out hb11)
    clear hb11 HS210 HB10
    have ec : (b.length : Int) + (a.length : Int) = (a.length : Int) + (b.length : Int) := by omega
    rw [ec]
    clear ec
    go_wp2
    go_ret
    exact ⟨rfl, HB11.out⟩
  · have hd : ((500 : Int) < (a.length : Int)) ∨ (¬ (500 : Int) < (a.length : Int) ∧ (500 : Int) < (b.length : Int)) := by omega
    have HH := As.mk hf
    have hmn := HN.out hf
    have HMN := As.mk hmn
    clear hf hmn
    rcases hd with i1 | ⟨i1, i2⟩
    all_goals
      go_wp2_with fail
      refine (common_no (Kd.C_below HR0.out HB7.out) HC0.out (Kd.C_below HR1.out HB7.out) HC1.out HH.out).mono ?_
      rintro e w8 ⟨rfl, hb8⟩
      have HB8 := As.mk (bt_ HB7.out hb8)
      clear hb8
      go_wp2_with fail
      refine (stays_no (Kd.C_below HR0.out HB8.out) HC0.out (Kd.C_below HR1.out HB8.out) HC1.out HH.out).mono ?_
      rintro e w9 ⟨rfl, hb9⟩
      have HB9 := As.mk (bt_ HB8.out hb9)
      clear hb9
      go_wp2_with fail
      refine (Hp.ints_any a b A B c d _ (Kd.C_below HR0.out HB9.out) HC0.out (Kd.C_below HR1.out HB9.out) HC1.out (by omega)).mono ?_
      rw [← HMN.out]
      rintro e w10 ⟨rfl, ⟨n10, rfl⟩⟩
      go_wp2
      go_ret
      exact ⟨by simp; exact beqN m, pw_below_drewN HB9.out _⟩
theorem law_makes {A : Option Addr} {c : Nat} {a : List Int} {B : Option Addr} {d : Nat} {b : List Int} {w : World} (hr0 : Kd.C (Kd.int .i64) w A a.length a) (hc0 : a.length ≤ c) (hr1 : Kd.C (Kd.int .i64) w B b.length b) (hc1 : b.length ≤ d) :
    Calls Try.prog 9 #[.slice A a.length c, .slice B b.length d] w fun e w' => e = .returned (.bool true) ∧ Below w.heap.size w w' := by
  by_cases h : 700 < a.length ∨ 700 < b.length
  · exact mbig h
  · exact msmall hr0 hc0 hr1 hc1 (by omega) (by omega)
end Go.Proofs.Ytphdbombgljamaa.Df
