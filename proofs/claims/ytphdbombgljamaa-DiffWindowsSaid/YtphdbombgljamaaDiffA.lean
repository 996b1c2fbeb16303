/- The document's example for windows; no condition. -/
import Derived.Test.YtphdbombgljamaaDiffV
namespace Go.Proofs.Ytphdbombgljamaa.Df
open Go.RowKit Go.Proofs.YtphdbombgljamaaW.PrintWords Go.Proofs.YtphdbombgljamaaW.PrintLast Go.Proofs.YtphdbombgljamaaW.PrintMore Go.Proofs.Ytphdbombgljamaa.Rf Go.Proofs.Ytphdbombgljamaa.Aid
set_option linter.unusedVariables false
set_option linter.unusedSimpArgs false
set_option maxHeartbeats 400000

theorem windows_any {A : Option Addr} {c : Nat} {a : List Int} {B : Option Addr} {d : Nat} {b : List Int} {w : World} (hr0 : Kd.C (Kd.int .i64) w A a.length a) (hc0 : a.length ≤ c) (hr1 : Kd.C (Kd.int .i64) w B b.length b) (hc1 : b.length ≤ d) (ha : a.length ≤ 1000) (hb : b.length ≤ 1000) :
    Calls Try.prog 21 #[.slice A a.length c, .slice B b.length d] w fun e w' => ∃ A' c', e = .returned (.slice A' (winP a b).length c') ∧ (winP a b).length ≤ c' ∧ Kd.C k43 w' A' (winP a b).length (winP a b) ∧ Below w.heap.size w w' := by
  unfold winP
  by_cases h : a.length ≤ 500 ∧ b.length ≤ 500
  · rw [if_pos h]
    refine (windows_few hr0 hc0 hr1 hc1 h.1 h.2).mono ?_
    rintro e w' ⟨v, rfl, hr, hB⟩
    obtain ⟨A', c', rfl, h1, h2⟩ := Kd.R_reads hr
    exact ⟨A', c', rfl, h1, h2, hB⟩
  · rw [if_neg h]
    refine (windows_many hr0 hc0 hr1 hc1 ha hb h).mono ?_
    rintro e w' ⟨v, rfl, hr, hB⟩
    obtain ⟨A', c', rfl, h1, h2⟩ := Kd.R_reads hr
    exact ⟨A', c', rfl, h1, h2, hB⟩
theorem ex_win : winP [1, 2, 3, 4] [1, 3, 5, 4] = [⟨1, 2, []⟩, ⟨3, 3, [5]⟩] := by
  simp [winP, winF, pairs, go, stepP, L, lcs_cons, lcs_nil, lcs_nil2, oneW, cutB]

set_option maxRecDepth 100000 in
theorem awake_any (w : World) : Calls Try.prog 19 #[] w fun e w' => e = .returned (.bool true) ∧ Below w.heap.size w w' := by
  have h1 : Kd.C (Kd.int .i64) ((w.alloc (.cells #[.int .i64 1, .int .i64 2, .int .i64 3, .int .i64 4] 3)).alloc (.cells #[.int .i64 1, .int .i64 3, .int .i64 5, .int .i64 4] 3)) (some ⟨w.heap.size, 0, none⟩) 4 [1, 2, 3, 4] := Kd.C_below (Hp.C_ints w 3 [1, 2, 3, 4] (by simp)) (below_alloc (Below.refl _ _) _)
  have h2 : Kd.C (Kd.int .i64) ((w.alloc (.cells #[.int .i64 1, .int .i64 2, .int .i64 3, .int .i64 4] 3)).alloc (.cells #[.int .i64 1, .int .i64 3, .int .i64 5, .int .i64 4] 3)) (some ⟨w.heap.size + 1, 0, none⟩) 4 [1, 3, 5, 4] := by
    have := Hp.C_ints (w.alloc (.cells #[.int .i64 1, .int .i64 2, .int .i64 3, .int .i64 4] 3)) 3 [1, 3, 5, 4] (by simp)
    rw [size_alloc] at this
    exact this
  have hb2 := below_alloc (below_alloc (Below.refl w.heap.size w) (.cells #[.int .i64 1, .int .i64 2, .int .i64 3, .int .i64 4] 3)) (.cells #[.int .i64 1, .int .i64 3, .int .i64 5, .int .i64 4] 3)
  have H1 := As.mk h1
  have H2 := As.mk h2
  have HB2 := As.mk hb2
  clear h1 h2 hb2
  go_enter Try.func19, Try.ntmps19
  go_wp2_with fail
  generalize (w.alloc (.cells #[.int .i64 1, .int .i64 2, .int .i64 3, .int .i64 4] 3)).alloc (.cells #[.int .i64 1, .int .i64 3, .int .i64 5, .int .i64 4] 3) = w1 at H1 H2 HB2 ⊢
  have hcl := windows_any (a := [1, 2, 3, 4]) (b := [1, 3, 5, 4]) (c := 4) (d := 4) H1.out (Nat.le_refl 4) H2.out (Nat.le_refl 4) (by simp) (by simp)
  rw [ex_win] at hcl
  refine hcl.mono ?_
  clear hcl
  rintro e w2 ⟨A, c, rfl, hc, hr, hb⟩
  have HB := As.mk (bt_ HB2.out hb)
  obtain ⟨ad, A2, c2, rfl, x0, x1, x2, _⟩ := at_T43 hr 0 (by omega) (by simp)
  obtain ⟨ad', A3, c3, e3, y0, y1, y2, hc3, hr3⟩ := at_T43 hr 1 (by omega) (by simp)
  injection e3 with e3
  subst e3
  have a0 : ad.add (Int.toNat 0 * 3) = ad := by simp [Addr.add]
  rw [a0] at x0 x1 x2
  replace x0 : w2.cell? ad = some (.int .i64 1) := x0
  replace x1 : w2.cell? ⟨ad.block, ad.off + 1, none⟩ = some (.int .i64 2) := x1
  replace x2 : w2.cell? ⟨ad.block, ad.off + 2, none⟩ = some (.slice A2 0 c2) := x2
  clear a0
  have a3 : ad.add (Int.toNat 1 * 3) = ⟨ad.block, ad.off + 3, none⟩ := by simp [Addr.add]
  rw [a3] at y0 y1 y2
  replace y0 : w2.cell? ⟨ad.block, ad.off + 3, none⟩ = some (.int .i64 3) := y0
  replace y1 : w2.cell? ⟨ad.block, ad.off + 3 + 1, none⟩ = some (.int .i64 3) := y1
  replace y2 : w2.cell? ⟨ad.block, ad.off + 3 + 2, none⟩ = some (.slice A3 1 c3) := y2
  have y1' : w2.cell? ⟨ad.block, ad.off + 4, none⟩ = some (.int .i64 3) := y1
  have y2' : w2.cell? ⟨ad.block, ad.off + 5, none⟩ = some (.slice A3 1 c3) := y2
  clear a3
  replace hc3 : 1 ≤ c3 := hc3
  have HR3 := As.mk (show (Kd.int .i64).C w2 A3 1 [5] from hr3)
  clear hr hr3 hc hb HB2 H1 H2
  simp only [List.length_cons, List.length_nil, Nat.zero_add, Nat.reduceAdd]
  go_wp2_with fail
  refine (Hp.ints_any [5] [5] A3 (some ⟨w2.heap.size, 0, none⟩) c3 1 _ (Kd.C_below HR3.out (below_alloc (Below.refl _ _) _)) hc3 (Hp.C_ints w2 3 [5] (by simp)) (by simp) (by simp)).mono ?_
  rw [decide_eq_true rfl]
  rintro e w3 ⟨rfl, ⟨n, rfl⟩⟩
  clear x0 x1 x2 y0 y1 y2 y1' y2' HR3
  go_wp2
  go_ret
  exact ⟨rfl, pw_below_drewN (below_alloc HB.out _) _⟩
end Go.Proofs.Ytphdbombgljamaa.Df
