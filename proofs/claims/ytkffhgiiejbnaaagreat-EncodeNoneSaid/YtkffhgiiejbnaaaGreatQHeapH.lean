import Derived.Test.YtkffhgiiejbnaaaGreatQHeapG
set_option linter.unusedVariables false
set_option linter.unusedSimpArgs false
namespace Go.Proofs.YtkffhgiiejbnaaaGreat.Hq
open Go.RowKit Go.Proofs.YtkffhgiiejbnaaaGreatW.PrintWords Go.Proofs.YtkffhgiiejbnaaaGreatW.PrintLast Go.Proofs.YtkffhgiiejbnaaaGreatW.PrintMore Go.Proofs.YtkffhgiiejbnaaaGreat.Aid Go.Proofs.YtkffhgiiejbnaaaGreat.Mp Go.Proofs.YtkffhgiiejbnaaaGreat.Hp
set_option linter.unusedVariables false
set_option linter.unusedSimpArgs false
set_option maxHeartbeats 400000
theorem perm_nil {l : List (Th Wx)} (h : l.Perm []) : l = [] := List.Perm.eq_nil h
set_option maxRecDepth 100000 in
theorem pop_no {w : World} {base h B : Nat} (H : HpOf w base h B []) : Calls Tryz.prog 179 #[.pointer (some ⟨h, 0, none⟩)] w fun e w' => e = .returned (.tuple #[.agg #[.int .i64 0, .int .i64 0, .int .i64 0], .int .i64 0, .int .i64 0, .bool false]) ∧ Below w.heap.size w w' := by
  obtain ⟨v, n, l', hh, hn0, hnB, hp, hhp⟩ := H.out
  have hl := perm_nil hp
  subst hl
  have HH := As.mk hh
  clear H hh hp hhp
  go_enter Tryz.func179, Tryz.ntmps179
  go_wp2_with (go_at_call 184; refine (peek_no (HH.out.below (below_alloc (Below.refl _ _) _))).mono ?_; rintro e w1 ⟨rfl, hb⟩; have HB1 := As.mk (below_alloc (bt_ (below_alloc (Below.refl w.heap.size w) _) hb) (.cells #[.int .i64 0, .int .i64 0, .int .i64 0] 275)); have HR1 := As.mk ((Below.block (below_alloc (Below.refl w1.heap.size w1) (.cells #[.int .i64 0, .int .i64 0, .int .i64 0] 275)) w.heap.size (by have := hb.size; simp at this; omega)).trans ((hb.block _ (by simp)).trans (Go.MapKept.heap_alloc w (.cells #[.int .i64 0, .int .i64 0, .int .i64 0] 275)).1)); clear hb; have r0 := cell_of (i := 0) HR1.out rfl; have r1 := cell_of (i := 1) HR1.out rfl; have r2 := cell_of (i := 2) HR1.out rfl; have z0 := blk_frozen HR1.out 0; have z1 := blk_frozen HR1.out 1; have z2 := blk_frozen HR1.out 2)
  have g0 := blk_set3 (u := .int .i64 0) (v := .int .i64 0) (x := .int .i64 0) HR1.out
  have s0 := cell_of (i := 0) g0 rfl
  have s1 := cell_of (i := 1) g0 rfl
  have s2 := cell_of (i := 2) g0 rfl
  clear g0
  refine bodyPost_ret (v := .tuple #[.agg #[.int .i64 0, .int .i64 0, .int .i64 0], .int .i64 0, .int .i64 0, .bool false]) ?_ rfl ⟨rfl, ?_⟩
  · simp only [results, show Tryz.f179.results = #[.cell 2 275, .tmp 3, .tmp 4, .tmp 5] from rfl]
    first | (go_simp; done) | (go_simp; rfl)
  · exact ((HB1.out.setCell (p := ⟨w.heap.size, 0, none⟩) (Nat.le_refl _) _).setCell (p := ⟨w.heap.size, 1, none⟩) (Nat.le_refl _) _).setCell (p := ⟨w.heap.size, 2, none⟩) (Nat.le_refl _) _
structure Popped (w w' : World) (e : Ending) (base h B : Nat) (l : List (Th Wx)) : Prop where
  mk :: (out : ∃ x l2, e = .returned (.tuple #[.agg #[.int .i64 x.x.f, .int .i64 x.x.a, .int .i64 x.x.b], .int .i64 x.r, .int .i64 x.p, .bool true]) ∧ l.Perm (x :: l2) ∧ (∀ y ∈ l, Le x y) ∧ HpOf w' base h B l2) (below : Below base w w') (kept : HK h w w')
theorem least_of {l l' : List (Th Wx)} {x : Th Wx} (h : Heap l') (hx : l'[0]? = some x) (hp : l'.Perm l) : ∀ y ∈ l, Le x y := by
  intro y hy
  obtain ⟨j, hj⟩ := List.mem_iff_getElem?.1 (hp.mem_iff.2 hy)
  exact heap_least h j x y hx hj
set_option maxRecDepth 100000 in
theorem pop_yes {w : World} {base h B : Nat} {l : List (Th Wx)} (H : HpOf w base h B l) (hl : 0 < l.length) (hlb : l.length ≤ 1000000000) : Calls Tryz.prog 179 #[.pointer (some ⟨h, 0, none⟩)] w fun e w' => Popped w w' e base h B l := by
  obtain ⟨v, n, l', hh, hn0, hnB, hp, hhp⟩ := H.out
  have hll : 0 < l'.length := by rw [hp.length_eq]; exact hl
  have hllb : l'.length ≤ 1000000000 := by rw [hp.length_eq]; exact hlb
  obtain ⟨g, cap, rfl, hbg, hglt, hne, hcap, cells, hg⟩ := hh.form hll
  obtain ⟨x, hx⟩ : ∃ x, l'[0]? = some x := ⟨_, List.getElem?_eq_getElem hll⟩
  have HH := As.mk hh
  have HX := As.mk hx
  have HP := As.mk hp
  have HLE := As.mk (least_of hhp hx hp)
  have HPF := As.mk ((List.Perm.cons x (downF_perm l'.length ((swapL l' 0 (l'.length - 1)).take (l'.length - 1)) 0).symm).trans (popF_perm hx))
  have HDI := As.mk (pop_inv hhp hll)
  have HSL := As.mk (swap_len l' 0 (l'.length - 1))
  have hbw : base ≤ w.heap.size := Nat.le_trans hh.le (Nat.le_of_lt hh.lt)
  obtain ⟨q, hq⟩ : ∃ q, l'.length = q + 1 := ⟨l'.length - 1, by omega⟩
  have hq1 : l'.length - 1 = q := by omega
  rw [hq1] at HPF HDI HSL
  have HQ := As.mk hq
  have hlast : (l'.length : Int) - 1 = (q : Int) := by omega
  have hl1 : (1 : Int) ≤ (l'.length : Int) := by omega
  have hlb2 : (l'.length : Int) ≤ 1000000000 := by omega
  have hqc : (q : Int) ≤ (cap : Int) := by omega
  have hq0 : (0 : Int) ≤ (q : Int) := by omega
  have hhlt := hh.lt
  clear H hh hp hhp hx hg hl hlb hq hq1 hll
  go_enter Tryz.func179, Tryz.ntmps179
  go_wp2_with (first
    | (go_at_call 184; refine (peek_yes (HH.out.below (below_alloc (Below.refl _ _) _)) HX.out).mono ?_; rintro e w1 ⟨rfl, hb⟩; have hba := below_alloc (Below.refl w.heap.size w) (.cells #[.int .i64 0, .int .i64 0, .int .i64 0] 275); have hbb := below_alloc (Below.refl w1.heap.size w1) (.cells #[.int .i64 x.x.f, .int .i64 x.x.a, .int .i64 x.x.b] 275); have HS1 := As.mk (show w.heap.size < w1.heap.size by have := hb.size; simp at this; omega); have HB2 := As.mk (bt_ (bt_ hba hb) hbb); have HR2 := As.mk ((hbb.block w.heap.size HS1.out).trans ((hb.block _ (by simp)).trans (Go.MapKept.heap_alloc w (.cells #[.int .i64 0, .int .i64 0, .int .i64 0] 275)).1)); have HM2 := As.mk (Go.MapKept.heap_alloc w1 (.cells #[.int .i64 x.x.f, .int .i64 x.x.a, .int .i64 x.x.b] 275)).1; have HH2 := As.mk (HH.out.below HB2.out); clear hba hbb hb; have c0 := cell_of (i := 0) HH2.out.blk rfl)
    | (go_at_call 185; refine (swap_any HH2.out 0 q (by have := HQ.out; omega) (by have := HQ.out; omega)).mono ?_; rintro e w3 ⟨rfl, hh, hb, hk⟩; have HB3 := As.mk ((HB2.out.mono hbw).trans hb); have HK3 := As.mk ((HK.of_below (h := h) HB2.out).trans hk); have HR3 := As.mk (hk.blk HR2.out (Nat.ne_of_gt hhlt) (by decide)); have HM3 := As.mk (hk.blk HM2.out (Nat.ne_of_gt (Nat.lt_trans hhlt HS1.out)) (by decide)); have HH3 := As.mk hh; clear hh hb hk HB2 HR2 HM2 HH2 c0; have c0 := cell_of (i := 0) HH3.out.blk rfl; have z0 := blk_frozen HH3.out.blk 0)
    | (go_at_call 186; have hq := HQ.out; have htl : ((swapL l' 0 q).take q).length = q := (by rw [List.length_take, HSL.out]; omega); have hrt := Kd.R_take (m := q) HH3.out.rows (by rw [HSL.out]; omega); have hrs := Kd.R_set hrt HH3.out.blk (by decide) 0 (.slice (some ⟨g, 0, none⟩) q cap); have HH4 := As.mk (HpAt.mk HH3.out.le (blk_set HH3.out.blk 0 (.slice (some ⟨g, 0, none⟩) q cap)) hrs); have HB4 := As.mk (HB3.out.setCell (p := ⟨h, 0, none⟩) HH3.out.le (.slice (some ⟨g, 0, none⟩) q cap)); have HK4 := As.mk (HK3.out.trans (HK.set w3 0 (.slice (some ⟨g, 0, none⟩) q cap))); have HR4 := As.mk ((HK.set w3 0 (.slice (some ⟨g, 0, none⟩) q cap)).blk HR3.out (Nat.ne_of_gt hhlt) (by decide)); have HM4 := As.mk ((HK.set w3 0 (.slice (some ⟨g, 0, none⟩) q cap)).blk HM3.out (Nat.ne_of_gt (Nat.lt_trans hhlt HS1.out)) (by decide)); have HTL := As.mk htl; clear hq htl hrt hrs HB3 HK3 HR3 HM3 HH3 c0 z0; generalize w3.setCell ⟨h, 0, none⟩ (.slice (some ⟨g, 0, none⟩) q cap) = w4 at *; refine (down_any HH4.out HDI.out (by rw [HTL.out]; omega)).mono ?_; rintro e w5 ⟨rfl, hs⟩; have HS5 := As.mk hs; have HR5 := As.mk (hs.kept.blk HR4.out (Nat.ne_of_gt hhlt) (by decide)); have HM5 := As.mk (hs.kept.blk HM4.out (Nat.ne_of_gt (Nat.lt_trans hhlt HS1.out)) (by decide)); clear hs; have m0 := cell_of (i := 0) HM5.out rfl; have m1 := cell_of (i := 1) HM5.out rfl; have m2 := cell_of (i := 2) HM5.out rfl; have r0 := cell_of (i := 0) HR5.out rfl; have r1 := cell_of (i := 1) HR5.out rfl; have r2 := cell_of (i := 2) HR5.out rfl; have z0 := blk_frozen HR5.out 0; have z1 := blk_frozen HR5.out 1; have z2 := blk_frozen HR5.out 2))
  clear r0 r1 r2 z0 z1 z2 m0 m1 m2
  have g0 := blk_set3 (u := .int .i64 x.x.f) (v := .int .i64 x.x.a) (x := .int .i64 x.x.b) HR5.out
  have s0 := cell_of (i := 0) g0 rfl
  have s1 := cell_of (i := 1) g0 rfl
  have s2 := cell_of (i := 2) g0 rfl
  obtain ⟨⟨l3, q1, q2, q3⟩, q4, q5⟩ := HS5.out
  have q6 := ((q1.far HR5.out (Nat.ne_of_gt hhlt) (by decide) 0 (.int .i64 x.x.f)).far (blk_set HR5.out 0 (.int .i64 x.x.f)) (Nat.ne_of_gt hhlt) (by decide) 1 (.int .i64 x.x.a)).far (blk_set (blk_set HR5.out 0 (.int .i64 x.x.f)) 1 (.int .i64 x.x.a)) (Nat.ne_of_gt hhlt) (by decide) 2 (.int .i64 x.x.b)
  clear g0
  refine bodyPost_ret (v := .tuple #[.agg #[.int .i64 x.x.f, .int .i64 x.x.a, .int .i64 x.x.b], .int .i64 x.r, .int .i64 x.p, .bool true]) ?_ rfl ⟨⟨x, (swapL l' 0 q).take q, rfl, HP.out.symm.trans HPF.out.symm, HLE.out, ⟨_, n, l3, q6, hn0, hnB, q2, q3⟩⟩, ?_, ?_⟩
  · simp only [results, show Tryz.f179.results = #[.cell 2 275, .tmp 3, .tmp 4, .tmp 5] from rfl]
    first | (go_simp; done) | (go_simp; rfl)
  · exact (((HB4.out.trans q4).setCell (p := ⟨w.heap.size, 0, none⟩) hbw _).setCell (p := ⟨w.heap.size, 1, none⟩) hbw _).setCell (p := ⟨w.heap.size, 2, none⟩) hbw _
  · have hk5 := HK4.out.trans q5
    refine ⟨by have := hk5.size; simpa [World.setCell] using this, fun k hk hne2 ht => ?_⟩
    have hkw : k ≠ w.heap.size := Nat.ne_of_lt hk
    exact (Below.heap_setCell _ ⟨w.heap.size, 2, none⟩ _ _ hkw).trans ((Below.heap_setCell _ ⟨w.heap.size, 1, none⟩ _ _ hkw).trans ((Below.heap_setCell _ ⟨w.heap.size, 0, none⟩ _ _ hkw).trans (hk5.block k hk hne2 ht)))
end Go.Proofs.YtkffhgiiejbnaaaGreat.Hq
