/- DiffStays: the walk of the law; no condition. -/
import Derived.Test.YtphdbombgljamaaDiffA
namespace Go.Proofs.Ytphdbombgljamaa.Df
open Go.RowKit Go.Proofs.YtphdbombgljamaaW.PrintWords Go.Proofs.YtphdbombgljamaaW.PrintLast Go.Proofs.YtphdbombgljamaaW.PrintMore Go.Proofs.Ytphdbombgljamaa.Rf Go.Proofs.Ytphdbombgljamaa.Aid
set_option linter.unusedVariables false
set_option linter.unusedSimpArgs false
set_option maxHeartbeats 400000

/-- how many of the first ones stay -/
def cntX (l : List (Nat × Nat)) : Nat → Nat
  | 0 => 0
  | i + 1 => cntX l i + (if hasI l i = true then 1 else 0)
theorem cntX_le (l : List (Nat × Nat)) : ∀ i, cntX l i ≤ i
  | 0 => Nat.le_refl _
  | i + 1 => by have := cntX_le l i; unfold cntX; split <;> omega
theorem cntX_nil : ∀ n, cntX [] n = 0
  | 0 => rfl
  | n + 1 => by simp [cntX, cntX_nil n, hasI]
theorem cntX_cons {p q : Nat} {l : List (Nat × Nat)} (h : hasI l p = false) : ∀ n, cntX ((p, q) :: l) n = cntX l n + (if p < n then 1 else 0)
  | 0 => by simp [cntX]
  | n + 1 => by
    have ih := cntX_cons (q := q) h n
    unfold cntX
    rw [ih]
    have e : hasI ((p, q) :: l) n = (decide (p = n) || hasI l n) := rfl
    rw [e]
    by_cases hp : p = n
    · subst hp
      rw [h]
      simp
    · by_cases hl : p < n
      · simp [hp, hl, show p < n + 1 from by omega]; omega
      · simp [hp, hl, show ¬ p < n + 1 from by omega]
theorem hasI_up {a b : List Int} : ∀ {l : List (Nat × Nat)} {i k p : Nat}, Up a b i k l → p < i → hasI l p = false
  | [], _, _, _, _, _ => rfl
  | (p', q) :: l, i, k, p, h, hp => by
    obtain ⟨h1, h2, _, h4⟩ := h
    have := hasI_up h4 (show p < p' + 1 by omega)
    have e : hasI ((p', q) :: l) p = (decide (p' = p) || hasI l p) := rfl
    rw [e, this, decide_eq_false (by omega)]
    rfl
theorem cntX_up {a b : List Int} : ∀ {l : List (Nat × Nat)} {i k : Nat}, Up a b i k l → ∀ n, a.length ≤ n → cntX l n = l.length
  | [], _, _, _, n, _ => cntX_nil n
  | (p, q) :: l, i, k, h, n, hn => by
    obtain ⟨h1, h2, ⟨h3, _, _⟩, h4⟩ := h
    rw [cntX_cons (hasI_up h4 (Nat.lt_succ_self p)), cntX_up h4 n hn, if_pos (by omega)]
    rfl
theorem cntX_all (a b : List Int) : cntX (pairs a b) a.length = L a b 0 0 := by
  unfold pairs
  rw [cntX_up (go_up a b _ 0 0 (by omega) (by omega)) _ (Nat.le_refl _), go_count a b _ 0 0 (by omega) (by omega) (by omega)]
theorem staysX_at (a b : List Int) (i : Nat) (h : i < a.length) : rdOf false (staysX a b) (i : Int) = hasI (pairs a b) i := by
  unfold rdOf staysX boolsOf
  rw [Int.toNat_natCast, List.getD_eq_getElem?_getD, List.getElem?_map, List.getElem?_range h]
  rfl
theorem law_big {A : Option Addr} {c : Nat} {a : List Int} {B : Option Addr} {d : Nat} {b : List Int} {w : World} (h : 60 < a.length ∨ 60 < b.length) :
    Calls Try.prog 5 #[.slice A a.length c, .slice B b.length d] w fun e w' => e = .returned (.bool true) ∧ Below w.heap.size w w' := by
  by_cases h1 : 60 < a.length
  · have i1 : (60 : Int) < (a.length : Int) := by omega
    go_enter Try.func5, Try.ntmps5
    go_wp2_with fail
    refine (awake_any _).mono ?_
    rintro e w1 ⟨rfl, hb⟩
    go_wp2
    go_ret
    exact ⟨rfl, hb⟩
  · have i1 : ¬ (60 : Int) < (a.length : Int) := by omega
    have i2 : (60 : Int) < (b.length : Int) := by omega
    go_enter Try.func5, Try.ntmps5
    go_wp2_with fail
    refine (awake_any _).mono ?_
    rintro e w1 ⟨rfl, hb⟩
    go_wp2
    go_ret
    exact ⟨rfl, hb⟩
set_option maxRecDepth 100000 in
set_option maxHeartbeats 1000000 in
theorem law_small {A : Option Addr} {c : Nat} {a : List Int} {B : Option Addr} {d : Nat} {b : List Int} {w : World} (hr0 : Kd.C (Kd.int .i64) w A a.length a) (hc0 : a.length ≤ c) (hr1 : Kd.C (Kd.int .i64) w B b.length b) (hc1 : b.length ≤ d) (ha : a.length ≤ 60) (hb : b.length ≤ 60) :
    Calls Try.prog 5 #[.slice A a.length c, .slice B b.length d] w fun e w' => e = .returned (.bool true) ∧ Below w.heap.size w w' := by
  have HR0 := As.mk hr0
  have HR1 := As.mk hr1
  have HC0 := As.mk hc0
  have HC1 := As.mk hc1
  clear hr0 hr1 hc0 hc1
  have i1 : ¬ (60 : Int) < (a.length : Int) := by omega
  have i2 : ¬ (60 : Int) < (b.length : Int) := by omega
  go_enter Try.func5, Try.ntmps5
  go_wp2_with fail
  refine (refStays_any A c a B d b _ HR0.out HC0.out HR1.out HC1.out (by omega) (by omega)).mono ?_
  rintro e w1 ⟨A1, c1, A2, c2, rfl, hx, hy, hb1⟩
  have HX := As.mk hx
  have HB1 := As.mk hb1
  clear hx hy hb1
  go_wp2_with fail
  refine (stays_any (Kd.C_below HR0.out HB1.out) HC0.out (Kd.C_below HR1.out HB1.out) HC1.out (by omega) (by omega)).mono ?_
  rintro e w2 ⟨A3, c3, rfl, hs, hb2⟩
  have HX2 := As.mk (Kd.C_below HX.out hb2)
  have HS := As.mk hs
  have HB2 := As.mk (bt_ HB1.out hb2)
  clear hs hb2 HX HB1
  go_wp2_with fail
  refine (common_any (Kd.C_below HR0.out HB2.out) HC0.out (Kd.C_below HR1.out HB2.out) HC1.out (by omega) (by omega)).mono ?_
  rintro e w3 ⟨rfl, hb3⟩
  have HX3 := As.mk (Kd.C_below HX2.out hb3)
  have HS3 := As.mk (Kd.C_below HS.out hb3)
  have HB3 := As.mk (bt_ HB2.out hb3)
  clear hb3 HX2 HB2 HS
  go_wp2_with fail
  refine (refLengths_any A c a B d b _ (Kd.C_below HR0.out HB3.out) HC0.out (Kd.C_below HR1.out HB3.out) HC1.out (by omega) (by omega)).mono ?_
  rintro e w4 ⟨A4, c4, rfl, hl, hb4⟩
  have HX4 := As.mk (Kd.C_below HX3.out hb4)
  have HS4 := As.mk (Kd.C_below HS3.out hb4)
  have HB4 := As.mk (bt_ HB3.out hb4)
  obtain ⟨ad4, A5, c5, rfl, x0, _, hrow⟩ := at_L3 hl 0 (by omega) (by omega)
  have hrw : rd_L3 (tabL a b) 0 = (List.range (b.length + 1)).map (fun k => (L a b 0 k : Int)) := by
    rw [tabL_is]; exact tabF_row (i := 0) (by omega)
  rw [hrw] at x0 hrow
  rw [List.length_map, List.length_range] at x0 hrow
  obtain ⟨ad5, rfl, y0⟩ := Kd.at_int hrow 0 (by omega) (by omega)
  have hrd : rd ((List.range (b.length + 1)).map (fun k => (L a b 0 k : Int))) 0 = (L a b 0 0 : Int) := tabF_rd (k := 0) (by omega)
  rw [hrd] at y0
  have a4 : ad4.add (Int.toNat 0) = ad4 := by simp [Addr.add]
  have a5 : ad5.add (Int.toNat 0) = ad5 := by simp [Addr.add]
  rw [a4] at x0
  rw [a5] at y0
  have j1 : (0 : Int) < (a.length : Int) + 1 := by omega
  have j2 : (0 : Int) < (b.length : Int) + 1 := by omega
  clear hl hb4 HX3 HB3 HS3 hrow hrw hrd a4 a5
  go_wp2_with fail
  clear x0 y0 j1 j2
  go_loopg [8, 9] a.length (fun g n i w' => ∃ (k : Nat) (W : World), i = .int .i64 k ∧ n = .int .i64 (cntX (pairs a b) k : Int) ∧ k ≤ a.length ∧ As (a.length - k ≤ g) ∧ As (W = w') ∧ As (Below w4.heap.size w4 w'))
  case atStart => exact ⟨0, w4, rfl, rfl, Nat.zero_le _, ⟨by omega⟩, ⟨rfl⟩, ⟨Below.refl _ _⟩⟩
  case round =>
    obtain ⟨k, W, rfl, rfl, hk, HK, HW, HB⟩ := hrel
    have hW := HW.out
    subst hW
    clear HW
    have hcl := cntX_le (pairs a b) k
    by_cases hlt : k < a.length
    · obtain ⟨g1, rfl⟩ : ∃ g1, gk = g1 + 1 := ⟨gk - 1, by have := HK.out; omega⟩
      have hli : (k : Int) < (a.length : Int) := by omega
      obtain ⟨ad1, rfl, x0⟩ := Kd.at_bool (Kd.C_below HX4.out HB.out) (k : Int) (by omega) (by omega)
      obtain ⟨ad3, rfl, y0⟩ := Kd.at_bool (Kd.C_below HS4.out HB.out) (k : Int) (by omega) (by omega)
      rw [staysX_at a b k hlt, Int.toNat_natCast] at x0 y0
      have hcs : cntX (pairs a b) (k + 1) = cntX (pairs a b) k + (if hasI (pairs a b) k = true then 1 else 0) := rfl
      have HCS := As.mk hcs
      clear hcs
      cases hv : hasI (pairs a b) k with
      | true =>
        rw [hv] at x0 y0 HCS
        rw [if_pos rfl] at HCS
        clear hv
        go_wp2
        go_quiet (fail)
        go_wp2
        go_roundg g1
        case measure => omega
        case rel => exact ⟨k + 1, _, by go_num, by rw [HCS.out]; go_num, by omega, ⟨by have := HK.out; omega⟩, ⟨rfl⟩, ⟨pw_below_drewN HB.out _⟩⟩
      | false =>
        rw [hv] at x0 y0 HCS
        rw [if_neg (by simp), Nat.add_zero] at HCS
        clear hv
        go_wp2
        go_quiet (fail)
        go_wp2
        go_roundg g1
        case measure => omega
        case rel => exact ⟨k + 1, _, by go_num, by rw [HCS.out, Nat.add_zero], by omega, ⟨by have := HK.out; omega⟩, ⟨rfl⟩, ⟨pw_below_drewN HB.out _⟩⟩
    · obtain rfl : k = a.length := by omega
      rw [cntX_all]
      clear hcl
      have HB5 := As.mk (bt_ HB4.out HB.out)
      clear HB
      go_wp2_with fail
      refine (common_any (Kd.C_below HR0.out HB5.out) HC0.out (Kd.C_below HR1.out HB5.out) HC1.out (by omega) (by omega)).mono ?_
      rintro e w6 ⟨rfl, hb6⟩
      have HB6 := As.mk (bt_ HB5.out hb6)
      clear hb6
      go_wp2_with fail
      refine (awake_any _).mono ?_
      rintro e w7 ⟨rfl, hb7⟩
      have HB7 := As.mk (bt_ HB6.out hb7)
      clear hb7
      go_wp2
      go_ret
      exact ⟨rfl, HB7.out⟩
theorem law_stays {A : Option Addr} {c : Nat} {a : List Int} {B : Option Addr} {d : Nat} {b : List Int} {w : World} (hr0 : Kd.C (Kd.int .i64) w A a.length a) (hc0 : a.length ≤ c) (hr1 : Kd.C (Kd.int .i64) w B b.length b) (hc1 : b.length ≤ d) :
    Calls Try.prog 5 #[.slice A a.length c, .slice B b.length d] w fun e w' => e = .returned (.bool true) ∧ Below w.heap.size w w' := by
  by_cases h : 60 < a.length ∨ 60 < b.length
  · exact law_big h
  · exact law_small hr0 hc0 hr1 hc1 (by omega) (by omega)
end Go.Proofs.Ytphdbombgljamaa.Df
