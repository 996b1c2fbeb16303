import Derived.Test.YtkffhgiiejbnaaaGreatQHeapF
import Derived.Test.YtkffhgiiejbnaaaGreatQChainP
import Derived.Test.YtkffhgiiejbnaaaGreatQTokE
set_option maxRecDepth 100000
set_option maxHeartbeats 400000
set_option linter.unusedVariables false
set_option linter.unusedSimpArgs false
set_option linter.unnecessarySimpa false
namespace Go.Proofs.YtkffhgiiejbnaaaGreat.Hq
open Go.RowKit YtkffhgiiejbnaaaGreatW.PrintWords YtkffhgiiejbnaaaGreatW.PrintLast YtkffhgiiejbnaaaGreatW.PrintMore Aid Mp Hp
theorem two_new (w : World) (a b : Obj) : ((w.alloc a).alloc b).heap[w.heap.size]? = some a ∧ ((w.alloc a).alloc b).heap[w.heap.size + 1]? = some b := by
 have h : ((w.alloc a).alloc b).heap = (w.heap.push a).push b := rfl
 rw [h]
 exact ⟨by rw [Array.getElem?_push, if_neg (by simp), Array.getElem?_push, if_pos rfl], by rw [Array.getElem?_push, if_pos (by simp)]⟩
theorem blk_set3 {w : World} {g t : Nat} {a b c u v x : Value} (h : w.heap[g]? = some (.cells #[a, b, c] t (0, 0))) : (((w.setCell ⟨g, 0, none⟩ u).setCell ⟨g, 1, none⟩ v).setCell ⟨g, 2, none⟩ x).heap[g]? = some (.cells #[u, v, x] t (0, 0)) :=
 blk_set (blk_set (blk_set h 0 u) 1 v) 2 x
theorem len_any {w : World} {base h : Nat} {v : Value} {n : Int} {l : List (Th Wx)} (H : HpAt w base h v n l) : Calls Tryz.prog 188 #[.pointer (some ⟨h, 0, none⟩)] w fun e w' => e = .returned (.int .i64 (l.length : Int)) ∧ w = w' := by
 obtain ⟨A, c, rfl⟩ := Kd.R_slice H.rows
 have c0 := cell_of (i := 0) H.blk rfl
 clear H
 go_enter Tryz.func188, Tryz.ntmps188
 go_wp2
 go_ret
 exact ⟨rfl, rfl⟩
theorem peek_no {w : World} {base h : Nat} {v : Value} {n : Int} (H : HpAt w base h v n []) : Calls Tryz.prog 184 #[.pointer (some ⟨h, 0, none⟩)] w fun e w' => e = .returned (.tuple #[.agg #[.int .i64 0, .int .i64 0, .int .i64 0], .int .i64 0, .int .i64 0, .bool false]) ∧ Below w.heap.size w w' := by
 have HH := As.mk H
 clear H
 go_enter Tryz.func184, Tryz.ntmps184
 go_wp2_with (go_at_call 188; refine (len_any (HH.out.below (below_alloc (Below.refl _ _) _))).mono ?_; rintro e w1 ⟨rfl, rfl⟩)
 refine bodyPost_ret (v := .tuple #[.agg #[.int .i64 0, .int .i64 0, .int .i64 0], .int .i64 0, .int .i64 0, .bool false]) ?_ rfl ⟨rfl, ?_⟩
 ·simp only [results, show Tryz.f184.results = #[.cell 2 275, .tmp 3, .tmp 4, .tmp 5] from rfl]
  first | (go_simp; done) | (go_simp; rfl)
 ·exact below_alloc (below_alloc (Below.refl _ _) _) _
theorem peek_yes {w : World} {base h : Nat} {v : Value} {n : Int} {l : List (Th Wx)} {x : Th Wx} (H : HpAt w base h v n l) (hx : l[0]? = some x) : Calls Tryz.prog 184 #[.pointer (some ⟨h, 0, none⟩)] w fun e w' => e = .returned (.tuple #[.agg #[.int .i64 x.x.f, .int .i64 x.x.a, .int .i64 x.x.b], .int .i64 x.r, .int .i64 x.p, .bool true]) ∧ Below w.heap.size w w' := by
 have hlt : 0 < l.length := by rcases Nat.eq_zero_or_pos l.length with h | h; rw [List.getElem?_eq_none (by omega)] at hx; cases hx; exact h
 obtain ⟨g, cap, rfl, hb, hglt, hne, hcap, cells, hg⟩ := H.form hlt
 have hltI : (0 : Int) < (l.length : Int) := by omega
 have hltB : ((l.length : Int) == 0) = false := by simpa using (show ¬ (l.length : Int) = 0 by omega)
 have HH := As.mk H
 have HX := As.mk hx
 clear H hx hg
 go_enter Tryz.func184, Tryz.ntmps184
 go_wp2_with (go_at_call 188; refine (len_any (HH.out.below (below_alloc (Below.refl _ _) _))).mono ?_; rintro e w1 ⟨rfl, rfl⟩; have hh := HH.out.below (below_alloc (Below.refl w.heap.size w) (.cells #[.int .i64 0, .int .i64 0, .int .i64 0] 275)); have c0 := cell_of (i := 0) hh.blk rfl; have a0 := (hh.elem HX.out).1 0 _ rfl; have a1 := (hh.elem HX.out).1 1 _ rfl; have a2 := (hh.elem HX.out).1 2 _ rfl; have a3 := (hh.elem HX.out).1 3 _ rfl; have a4 := (hh.elem HX.out).1 4 _ rfl; have a5 := (hh.elem HX.out).1 5 _ rfl; simp only [Nat.zero_mul, Nat.zero_add] at a0 a1 a2 a3 a4 a5; clear hh)
 clear c0 a0 a1 a2 a3 a4 a5
 have HN0 := As.mk (two_new w (.cells #[.int .i64 0, .int .i64 0, .int .i64 0] 275 (0, 0)) (.cells #[.int .i64 x.r, .int .i64 x.p, .int .i64 x.t, .int .i64 x.x.f, .int .i64 x.x.a, .int .i64 x.x.b] 294 (0, 0)))
 have HB := As.mk (below_alloc (below_alloc (Below.refl w.heap.size w) (.cells #[.int .i64 0, .int .i64 0, .int .i64 0] 275)) (.cells #[.int .i64 x.r, .int .i64 x.p, .int .i64 x.t, .int .i64 x.x.f, .int .i64 x.x.a, .int .i64 x.x.b] 294))
 generalize ((w.alloc (.cells #[.int .i64 0, .int .i64 0, .int .i64 0] 275)).alloc (.cells #[.int .i64 x.r, .int .i64 x.p, .int .i64 x.t, .int .i64 x.x.f, .int .i64 x.x.a, .int .i64 x.x.b] 294)) = w2 at HN0 HB ⊢
 refine start_ (n := 12) (S := fun w' => w'.heap[w.heap.size + 1]? = some (.cells #[.int .i64 x.r, .int .i64 x.p, .int .i64 x.t, .int .i64 x.x.f, .int .i64 x.x.a, .int .i64 x.x.b] 294 (0, 0))) (ds := []) #[false, false, false, false, false, false, false, false, false, false, false, false] (by kernel_rfl) rfl rfl (HN0.out.2) (fun hHeld => ?_)
 have HR := As.mk (show w2.drew.heap[w.heap.size]? = some (.cells #[.int .i64 0, .int .i64 0, .int .i64 0] 275 (0, 0)) from HN0.out.1); have HW9 := As.mk (below_drew1 HB.out); clear HN0 HB; generalize w2.drew = w9 at HR HW9 hHeld ⊢; have HH0 := As.mk hHeld; have r0 := cell_of (i := 0) HR.out rfl; have r1 := cell_of (i := 1) HR.out rfl; have r2 := cell_of (i := 2) HR.out rfl; have z0 := blk_frozen HR.out 0; have z1 := blk_frozen HR.out 1; have z2 := blk_frozen HR.out 2
 refine pI 0 (some 18) (bs 12 1) ?_
 refine pI 2 (some 20) (bs 12 5) ?_
 refine pI 3 (some 21) (bs 12 13) ?_
 refine pI 5 (some 23) (bs 12 45) ?_
 refine pI 6 (some 24) (bs 12 109) ?_
 refine tI 1 (some 19) (bs 12 111) rfl (by intro w' hS'; have hS2 := hS'; have a0 := cell_of (i := 0) hS' rfl; have a1 := cell_of (i := 1) hS' rfl; have a3 := cell_of (i := 3) hS' rfl; have a4 := cell_of (i := 4) hS' rfl; have a5 := cell_of (i := 5) hS' rfl; go_simp; with_reducible rfl) hHeld ?_
 refine tI 4 (some 22) (bs 12 127) rfl (by intro w' hS'; have hS2 := hS'; have a0 := cell_of (i := 0) hS' rfl; have a1 := cell_of (i := 1) hS' rfl; have a3 := cell_of (i := 3) hS' rfl; have a4 := cell_of (i := 4) hS' rfl; have a5 := cell_of (i := 5) hS' rfl; go_simp; with_reducible rfl) hHeld ?_
 refine tI 7 (some 25) (bs 12 255) rfl (by intro w' hS'; have hS2 := hS'; have a0 := cell_of (i := 0) hS' rfl; have a1 := cell_of (i := 1) hS' rfl; have a3 := cell_of (i := 3) hS' rfl; have a4 := cell_of (i := 4) hS' rfl; have a5 := cell_of (i := 5) hS' rfl; go_simp; with_reducible rfl) hHeld ?_
 refine one_ (i := 8) (N := none) (bs 12 511) rfl rfl (by kernel_rfl) (by decide) (fun K hK => ?_)
 refine skip_ (w1 := ((w9.setCell ⟨w.heap.size, 0, none⟩ (.int .i64 x.x.f)).setCell ⟨w.heap.size, 1, none⟩ (.int .i64 x.x.a)).setCell ⟨w.heap.size, 2, none⟩ (.int .i64 x.x.b)) (by rfl) rfl ?_ ?_
 ·first | (go_simp; done) | (go_simp; rfl)
 refine hK.out _ _ ((Below.heap_setCell _ ⟨w.heap.size, 2, none⟩ _ _ (by simp)).trans ((Below.heap_setCell _ ⟨w.heap.size, 1, none⟩ _ _ (by simp)).trans ((Below.heap_setCell _ ⟨w.heap.size, 0, none⟩ _ _ (by simp)).trans HH0.out))) (fun hHeld => ?_)
 clear hK K hHeld
 refine pI 9 (some 3) (bs 12 1023) ?_
 refine pI 10 (some 4) (bs 12 2047) ?_
 refine pI 11 (some 5) (bs 12 4095) ?_
 refine done_ (by kernel_rfl) ?_
 clear r0 r1 r2 z0 z1 z2 HH0
 have g0 := blk_set3 (u := .int .i64 x.x.f) (v := .int .i64 x.x.a) (x := .int .i64 x.x.b) HR.out
 have HBF := As.mk (((HW9.out.setCell (p := ⟨w.heap.size, 0, none⟩) (Nat.le_refl _) (.int .i64 x.x.f)).setCell (p := ⟨w.heap.size, 1, none⟩) (Nat.le_refl _) (.int .i64 x.x.a)).setCell (p := ⟨w.heap.size, 2, none⟩) (Nat.le_refl _) (.int .i64 x.x.b))
 clear HR HW9
 generalize ((w9.setCell ⟨w.heap.size, 0, none⟩ (.int .i64 x.x.f)).setCell ⟨w.heap.size, 1, none⟩ (.int .i64 x.x.a)).setCell ⟨w.heap.size, 2, none⟩ (.int .i64 x.x.b) = w3 at *
 have r0 := cell_of (i := 0) g0 rfl
 have r1 := cell_of (i := 1) g0 rfl
 have r2 := cell_of (i := 2) g0 rfl
 clear g0
 go_wp2_with fail
 refine bodyPost_ret (v := .tuple #[.agg #[.int .i64 x.x.f, .int .i64 x.x.a, .int .i64 x.x.b], .int .i64 x.r, .int .i64 x.p, .bool true]) ?_ rfl ⟨rfl, HBF.out⟩
 simp only [results, show Tryz.f184.results = #[.cell 2 275, .tmp 3, .tmp 4, .tmp 5] from rfl]
 first | (go_simp; done) | (go_simp; rfl)
end Go.Proofs.YtkffhgiiejbnaaaGreat.Hq
namespace Go.Proofs.YtkffhgiiejbnaaaGreat.Hq
open Go.RowKit YtkffhgiiejbnaaaGreatW.PrintWords YtkffhgiiejbnaaaGreatW.PrintLast YtkffhgiiejbnaaaGreatW.PrintMore Aid Mp Hp
theorem perm_nil {l : List (Th Wx)} (h : l.Perm []) : l = [] := List.Perm.eq_nil h
theorem pop_no {w : World} {base h B : Nat} (H : HpOf w base h B []) : Calls Tryz.prog 179 #[.pointer (some ⟨h, 0, none⟩)] w fun e w' => e = .returned (.tuple #[.agg #[.int .i64 0, .int .i64 0, .int .i64 0], .int .i64 0, .int .i64 0, .bool false]) ∧ Below w.heap.size w w' := by
 obtain ⟨v, n, l', hh, hn0, hnB, hp, hhp⟩ := H.out
 have hl := perm_nil hp
 subst hl
 have HH := As.mk hh
 clear H hh hp hhp
 go_enter Tryz.func179, Tryz.ntmps179
 go_wp2_with (go_at_call 184; refine (peek_no (HH.out.below (below_alloc (Below.refl _ _) _))).mono ?_; rintro e w1 ⟨rfl, hb⟩; have HB1 := As.mk (below_alloc (bt_ (below_alloc (Below.refl w.heap.size w) _) hb) (.cells #[.int .i64 0, .int .i64 0, .int .i64 0] 275)); have HR1 := As.mk ((Below.block (below_alloc (Below.refl w1.heap.size w1) (.cells #[.int .i64 0, .int .i64 0, .int .i64 0] 275)) w.heap.size (by have := hb.size; simp at this; omega)).trans ((hb.block _ (by simp)).trans (Go.MapKept.heap_alloc w (.cells #[.int .i64 0, .int .i64 0, .int .i64 0] 275)).1)); clear hb; have r0 := cell_of (i := 0) HR1.out rfl; have r1 := cell_of (i := 1) HR1.out rfl; have r2 := cell_of (i := 2) HR1.out rfl; have z0 := blk_frozen HR1.out 0; have z1 := blk_frozen HR1.out 1; have z2 := blk_frozen HR1.out 2)
 have g0 := blk_set3 (u := .int .i64 0) (v := .int .i64 0) (x := .int .i64 0) HR1.out
 have s0 := cell_of (i := 0) g0 rfl
 have s1 := cell_of (i := 1) g0 rfl
 have s2 := cell_of (i := 2) g0 rfl
 clear g0
 refine bodyPost_ret (v := .tuple #[.agg #[.int .i64 0, .int .i64 0, .int .i64 0], .int .i64 0, .int .i64 0, .bool false]) ?_ rfl ⟨rfl, ?_⟩
 ·simp only [results, show Tryz.f179.results = #[.cell 2 275, .tmp 3, .tmp 4, .tmp 5] from rfl]
  first | (go_simp; done) | (go_simp; rfl)
 ·exact ((HB1.out.setCell (p := ⟨w.heap.size, 0, none⟩) (Nat.le_refl _) _).setCell (p := ⟨w.heap.size, 1, none⟩) (Nat.le_refl _) _).setCell (p := ⟨w.heap.size, 2, none⟩) (Nat.le_refl _) _
structure Popped (w w' : World) (e : Ending) (base h B : Nat) (l : List (Th Wx)) : Prop where
 mk :: (out : ∃ x l2, e = .returned (.tuple #[.agg #[.int .i64 x.x.f, .int .i64 x.x.a, .int .i64 x.x.b], .int .i64 x.r, .int .i64 x.p, .bool true]) ∧ l.Perm (x :: l2) ∧ (∀ y ∈ l, Le x y) ∧ HpOf w' base h B l2) (below : Below base w w') (kept : HK h w w')
theorem least_of {l l' : List (Th Wx)} {x : Th Wx} (h : Heap l') (hx : l'[0]? = some x) (hp : l'.Perm l) : ∀ y ∈ l, Le x y := by
 intro y hy
 obtain ⟨j, hj⟩ := List.mem_iff_getElem?.1 (hp.mem_iff.2 hy)
 exact heap_least h j x y hx hj
theorem pop_yes {w : World} {base h B : Nat} {l : List (Th Wx)} (H : HpOf w base h B l) (hl : 0 < l.length) (hlb : l.length ≤ 1000000000) : Calls Tryz.prog 179 #[.pointer (some ⟨h, 0, none⟩)] w fun e w' => Popped w w' e base h B l := by
 obtain ⟨v, n, l', hh, hn0, hnB, hp, hhp⟩ := H.out
 have hll : 0 < l'.length := by rw [hp.length_eq]; exact hl
 have hllb : l'.length ≤ 1000000000 := by rw [hp.length_eq]; exact hlb
 obtain ⟨g, cap, rfl, hbg, hglt, hne, hcap, cells, hg⟩ := hh.form hll
 obtain ⟨x, hx⟩ : ∃ x, l'[0]? = some x := ⟨_, List.getElem?_eq_getElem hll⟩
 have HH := As.mk hh
 have HX := As.mk hx
 have HP := As.mk hp
 have HLE := As.mk (least_of hhp hx hp)
 have HPF := As.mk ((List.Perm.cons x (downF_perm l'.length ((swapL l' 0 (l'.length - 1)).take (l'.length - 1)) 0).symm).trans (popF_perm hx))
 have HDI := As.mk (pop_inv hhp hll)
 have HSL := As.mk (swap_len l' 0 (l'.length - 1))
 have hbw : base ≤ w.heap.size := Nat.le_trans hh.le (Nat.le_of_lt hh.lt)
 obtain ⟨q, hq⟩ : ∃ q, l'.length = q + 1 := ⟨l'.length - 1, by omega⟩
 have hq1 : l'.length - 1 = q := by omega
 rw [hq1] at HPF HDI HSL
 have HQ := As.mk hq
 have hlast : (l'.length : Int) - 1 = (q : Int) := by omega
 have hl1 : (1 : Int) ≤ (l'.length : Int) := by omega
 have hlb2 : (l'.length : Int) ≤ 1000000000 := by omega
 have hqc : (q : Int) ≤ (cap : Int) := by omega
 have hq0 : (0 : Int) ≤ (q : Int) := by omega
 have hhlt := hh.lt
 clear H hh hp hhp hx hg hl hlb hq hq1 hll
 go_enter Tryz.func179, Tryz.ntmps179
 go_wp2_with (first
  | (go_at_call 184; refine (peek_yes (HH.out.below (below_alloc (Below.refl _ _) _)) HX.out).mono ?_; rintro e w1 ⟨rfl, hb⟩; have hba := below_alloc (Below.refl w.heap.size w) (.cells #[.int .i64 0, .int .i64 0, .int .i64 0] 275); have hbb := below_alloc (Below.refl w1.heap.size w1) (.cells #[.int .i64 x.x.f, .int .i64 x.x.a, .int .i64 x.x.b] 275); have HS1 := As.mk (show w.heap.size < w1.heap.size by have := hb.size; simp at this; omega); have HB2 := As.mk (bt_ (bt_ hba hb) hbb); have HR2 := As.mk ((hbb.block w.heap.size HS1.out).trans ((hb.block _ (by simp)).trans (Go.MapKept.heap_alloc w (.cells #[.int .i64 0, .int .i64 0, .int .i64 0] 275)).1)); have HM2 := As.mk (Go.MapKept.heap_alloc w1 (.cells #[.int .i64 x.x.f, .int .i64 x.x.a, .int .i64 x.x.b] 275)).1; have HH2 := As.mk (HH.out.below HB2.out); clear hba hbb hb; have c0 := cell_of (i := 0) HH2.out.blk rfl)
  | (go_at_call 185; refine (swap_any HH2.out 0 q (by have := HQ.out; omega) (by have := HQ.out; omega)).mono ?_; rintro e w3 ⟨rfl, hh, hb, hk⟩; have HB3 := As.mk ((HB2.out.mono hbw).trans hb); have HK3 := As.mk ((HK.of_below (h := h) HB2.out).trans hk); have HR3 := As.mk (hk.blk HR2.out (Nat.ne_of_gt hhlt) (by decide)); have HM3 := As.mk (hk.blk HM2.out (Nat.ne_of_gt (Nat.lt_trans hhlt HS1.out)) (by decide)); have HH3 := As.mk hh; clear hh hb hk HB2 HR2 HM2 HH2 c0; have c0 := cell_of (i := 0) HH3.out.blk rfl; have z0 := blk_frozen HH3.out.blk 0)
  | (go_at_call 186; have hq := HQ.out; have htl : ((swapL l' 0 q).take q).length = q := (by rw [List.length_take, HSL.out]; omega); have hrt := Kd.R_take (m := q) HH3.out.rows (by rw [HSL.out]; omega); have hrs := Kd.R_set hrt HH3.out.blk (by decide) 0 (.slice (some ⟨g, 0, none⟩) q cap); have HH4 := As.mk (HpAt.mk HH3.out.le (blk_set HH3.out.blk 0 (.slice (some ⟨g, 0, none⟩) q cap)) hrs); have HB4 := As.mk (HB3.out.setCell (p := ⟨h, 0, none⟩) HH3.out.le (.slice (some ⟨g, 0, none⟩) q cap)); have HK4 := As.mk (HK3.out.trans (HK.set w3 0 (.slice (some ⟨g, 0, none⟩) q cap))); have HR4 := As.mk ((HK.set w3 0 (.slice (some ⟨g, 0, none⟩) q cap)).blk HR3.out (Nat.ne_of_gt hhlt) (by decide)); have HM4 := As.mk ((HK.set w3 0 (.slice (some ⟨g, 0, none⟩) q cap)).blk HM3.out (Nat.ne_of_gt (Nat.lt_trans hhlt HS1.out)) (by decide)); have HTL := As.mk htl; clear hq htl hrt hrs HB3 HK3 HR3 HM3 HH3 c0 z0; generalize w3.setCell ⟨h, 0, none⟩ (.slice (some ⟨g, 0, none⟩) q cap) = w4 at *; refine (down_any HH4.out HDI.out (by rw [HTL.out]; omega)).mono ?_; rintro e w5 ⟨rfl, hs⟩; have HS5 := As.mk hs; have HR5 := As.mk (hs.kept.blk HR4.out (Nat.ne_of_gt hhlt) (by decide)); have HM5 := As.mk (hs.kept.blk HM4.out (Nat.ne_of_gt (Nat.lt_trans hhlt HS1.out)) (by decide)); clear hs; have m0 := cell_of (i := 0) HM5.out rfl; have m1 := cell_of (i := 1) HM5.out rfl; have m2 := cell_of (i := 2) HM5.out rfl; have r0 := cell_of (i := 0) HR5.out rfl; have r1 := cell_of (i := 1) HR5.out rfl; have r2 := cell_of (i := 2) HR5.out rfl; have z0 := blk_frozen HR5.out 0; have z1 := blk_frozen HR5.out 1; have z2 := blk_frozen HR5.out 2))
 clear r0 r1 r2 z0 z1 z2 m0 m1 m2
 have g0 := blk_set3 (u := .int .i64 x.x.f) (v := .int .i64 x.x.a) (x := .int .i64 x.x.b) HR5.out
 have s0 := cell_of (i := 0) g0 rfl
 have s1 := cell_of (i := 1) g0 rfl
 have s2 := cell_of (i := 2) g0 rfl
 obtain ⟨⟨l3, q1, q2, q3⟩, q4, q5⟩ := HS5.out
 have q6 := ((q1.far HR5.out (Nat.ne_of_gt hhlt) (by decide) 0 (.int .i64 x.x.f)).far (blk_set HR5.out 0 (.int .i64 x.x.f)) (Nat.ne_of_gt hhlt) (by decide) 1 (.int .i64 x.x.a)).far (blk_set (blk_set HR5.out 0 (.int .i64 x.x.f)) 1 (.int .i64 x.x.a)) (Nat.ne_of_gt hhlt) (by decide) 2 (.int .i64 x.x.b)
 clear g0
 refine bodyPost_ret (v := .tuple #[.agg #[.int .i64 x.x.f, .int .i64 x.x.a, .int .i64 x.x.b], .int .i64 x.r, .int .i64 x.p, .bool true]) ?_ rfl ⟨⟨x, (swapL l' 0 q).take q, rfl, HP.out.symm.trans HPF.out.symm, HLE.out, ⟨_, n, l3, q6, hn0, hnB, q2, q3⟩⟩, ?_, ?_⟩
 ·simp only [results, show Tryz.f179.results = #[.cell 2 275, .tmp 3, .tmp 4, .tmp 5] from rfl]
  first | (go_simp; done) | (go_simp; rfl)
 ·exact (((HB4.out.trans q4).setCell (p := ⟨w.heap.size, 0, none⟩) hbw _).setCell (p := ⟨w.heap.size, 1, none⟩) hbw _).setCell (p := ⟨w.heap.size, 2, none⟩) hbw _
 ·have hk5 := HK4.out.trans q5
  refine ⟨by have := hk5.size; simpa [World.setCell] using this, fun k hk hne2 ht => ?_⟩
  have hkw : k ≠ w.heap.size := Nat.ne_of_lt hk
  exact (Below.heap_setCell _ ⟨w.heap.size, 2, none⟩ _ _ hkw).trans ((Below.heap_setCell _ ⟨w.heap.size, 1, none⟩ _ _ hkw).trans ((Below.heap_setCell _ ⟨w.heap.size, 0, none⟩ _ _ hkw).trans (hk5.block k hk hne2 ht)))
end Go.Proofs.YtkffhgiiejbnaaaGreat.Hq
namespace Go.Proofs.YtkffhgiiejbnaaaGreat.Ch
open Go.RowKit YtkffhgiiejbnaaaGreatW.PrintWords YtkffhgiiejbnaaaGreatW.PrintLast YtkffhgiiejbnaaaGreatW.PrintMore Aid Mp Hp Hq Tk
def kNd : Kd Nd := Kd.iso (Kd.pair (Kd.int .i64) (Kd.pair (Kd.int .i64) (Kd.int .i64))) (fun x : Nd => (x.id, x.ahead, x.next))
def cells3 (x : Nd) : List Value := [.int .i64 x.id, .int .i64 x.ahead, .int .i64 x.next]
theorem kNd_open {w : World} {x : Nd} {cs : List Value} (h : kNd.K w x cs) : cs = cells3 x := by
 obtain ⟨c1, c2, rfl, h1, h2⟩ := h
 obtain ⟨c3, c4, rfl, h3, h4⟩ := h2
 have e1 : c1 = [.int .i64 x.id] := h1
 have e3 : c3 = [.int .i64 x.ahead] := h3
 have e4 : c4 = [.int .i64 x.next] := h4
 subst e1; subst e3; subst e4
 rfl
theorem kNd_mkM (w : World) (base : Nat) (ok : Nat → Prop) (x : Nd) : kNd.M w base ok x (cells3 x) := ⟨[.int .i64 x.id], _, rfl, rfl, ⟨[.int .i64 x.ahead], [.int .i64 x.next], rfl, rfl, rfl⟩⟩
theorem kNd_sz : kNd.sz = 3 := rfl
theorem kNd_E : kNd.E = [] := rfl
theorem info_nd : (Tryz.prog.info? 280).map (fun i => (i.zero, i.size, i.bytes)) = some (some (.agg #[.int .i64 0, .int .i64 0, .int .i64 0]), 3, 24) := by kernel_rfl
structure LkAt (W : World) (base c : Nat) (v : Value) (pt q : Nat) (lim st : Int) (L : List Nd) : Prop where
 le : base ≤ c
 ne : c ≠ q
 blk : W.heap[c]? = some (.cells #[.pointer (some ⟨pt, 0, none⟩), v, .pointer (some ⟨q, 0, none⟩), .int .i64 lim, .int .i64 st] 278 (0, 0))
 qt : ∃ cs, W.heap[q]? = some (.cells cs 288 (0, 0))
 rows : Kd.R kNd 280 W base (fun _ => True) v L
theorem LkAt.lt {W : World} {base c : Nat} {v : Value} {pt q : Nat} {lim st : Int} {L : List Nd} (H : LkAt W base c v pt q lim st L) : c < W.heap.size := blk_lt H.blk
theorem LkAt.below {W W' : World} {base c : Nat} {v : Value} {pt q : Nat} {lim st : Int} {L : List Nd} (H : LkAt W base c v pt q lim st L) (hb : Below W.heap.size W W') : LkAt W' base c v pt q lim st L := by
 obtain ⟨cs, hq⟩ := H.qt
 exact ⟨H.le, H.ne, (hb.block _ (blk_lt H.blk)).trans H.blk, ⟨cs, (hb.block _ (blk_lt hq)).trans hq⟩, Kd.R_below H.rows hb⟩
theorem LkAt.kept {W W' : World} {base c : Nat} {v : Value} {pt q : Nat} {lim st : Int} {L : List Nd} (H : LkAt W base c v pt q lim st L) (hk : HK q W W') (hq : ∃ cs, W'.heap[q]? = some (.cells cs 288 (0, 0))) : LkAt W' base c v pt q lim st L := by
 refine ⟨H.le, H.ne, hk.blk H.blk H.ne (by decide), hq, ?_⟩
 obtain ⟨cs, hq0⟩ := H.qt
 refine Kd.R_mono (Kd.R_move (Kd.R_bound H.rows) (fun k hk2 => ?_)) (fun _ _ => trivial)
 obtain ⟨_, _, hlt, t, ht, cells, hc⟩ := hk2
 simp only [kNd_E, List.mem_singleton] at ht
 subst ht
 refine (hk.blk hc (fun e => ?_) (by decide)).trans hc.symm
 subst e
 rw [hq0] at hc
 injection hc with hc
 injection hc with _ hc
 exact absurd hc (by decide)
theorem LkAt.form {W : World} {base c : Nat} {v : Value} {pt q : Nat} {lim st : Int} {L : List Nd} (H : LkAt W base c v pt q lim st L) (hl : 0 < L.length) : ∃ g cap, v = .slice (some ⟨g, 0, none⟩) L.length cap ∧ base ≤ g ∧ g < W.heap.size ∧ g ≠ c ∧ g ≠ q ∧ L.length ≤ cap ∧ ∃ cells, W.heap[g]? = some (.cells cells 280 (0, 0)) := by
 obtain ⟨g, cap, e, h1, h2, cells, h3⟩ := Kd.R_form H.rows hl
 refine ⟨g, cap, e, h1, h2, fun e2 => ?_, fun e2 => ?_, ?_, cells, h3⟩
 ·subst e2; rw [H.blk] at h3; injection h3 with h3; injection h3 with _ h3; exact absurd h3 (by decide)
 ·subst e2; obtain ⟨cs, hq⟩ := H.qt; rw [hq] at h3; injection h3 with h3; injection h3 with _ h3; exact absurd h3 (by decide)
 ·have := H.rows; rw [e] at this; exact (Kd.R_reads' this).2.1
theorem LkAt.elem {W : World} {base c g cap n : Nat} {pt q : Nat} {lim st : Int} {L : List Nd} (H : LkAt W base c (.slice (some ⟨g, 0, none⟩) n cap) pt q lim st L) {i : Nat} {x : Nd} (hi : L[i]? = some x) :
  (∀ j u, (cells3 x)[j]? = some u → W.cell? ⟨g, i * 3 + j, none⟩ = some u) ∧ ∀ j, W.frozen? ⟨g, i * 3 + j, none⟩ = false := by
 have hlt : i < L.length := by rcases Nat.lt_or_ge i L.length with h | h; exact h; rw [List.getElem?_eq_none h] at hi; cases hi
 have hn := (Kd.R_reads' H.rows).1
 obtain ⟨cc, h1, h2, h3, h4⟩ := Kd.R_elem H.rows x (i : Int) (by omega) (by omega)
 rw [Int.toNat_natCast, List.getD_eq_getElem?_getD, hi] at h2
 have hc := kNd_open (kNd.K_of_M h2)
 subst hc
 simp only [Int.toNat_natCast, kNd_sz] at h3 h4
 exact ⟨h3, h4⟩
theorem LkAt.c {W : World} {base c : Nat} {v : Value} {pt q : Nat} {lim st : Int} {L : List Nd} (H : LkAt W base c v pt q lim st L) : W.cell? ⟨c, 0, none⟩ = some (.pointer (some ⟨pt, 0, none⟩)) ∧ W.cell? ⟨c, 1, none⟩ = some v ∧ W.cell? ⟨c, 2, none⟩ = some (.pointer (some ⟨q, 0, none⟩)) ∧ W.cell? ⟨c, 3, none⟩ = some (.int .i64 lim) ∧ W.cell? ⟨c, 4, none⟩ = some (.int .i64 st) :=
 ⟨cell_of H.blk rfl, cell_of H.blk rfl, cell_of H.blk rfl, cell_of H.blk rfl, cell_of H.blk rfl⟩
theorem LkAt.put {W : World} {base c g cap n : Nat} {pt q : Nat} {lim st : Int} {L : List Nd} (H : LkAt W base c (.slice (some ⟨g, 0, none⟩) n cap) pt q lim st L) {i : Nat} {x : Nd} (hi : L[i]? = some x) (j : Nat) (u : Value) (x' : Nd) (hj : j + 1 ≤ 3) (hx : (cells3 x).take j ++ [u] ++ (cells3 x).drop (j + 1) = cells3 x') :
  LkAt (W.setCell ⟨g, i * 3 + j, none⟩ u) base c (.slice (some ⟨g, 0, none⟩) n cap) pt q lim st (L.set i x') ∧ Below base W (W.setCell ⟨g, i * 3 + j, none⟩ u) ∧ (∃ cells, W.heap[g]? = some (.cells cells 280 (0, 0))) ∧ g ≠ q := by
 have hlt : i < L.length := by rcases Nat.lt_or_ge i L.length with h | h; exact h; rw [List.getElem?_eq_none h] at hi; cases hi
 obtain ⟨g', cap', e, hb, hgl, hne, hnq, _, cells, hg⟩ := H.form (by omega)
 injection e with e e2 e3
 injection e with e
 injection e with e
 subst e; subst e3; subst e2
 obtain ⟨q1, q2⟩ := H.elem hi
 obtain ⟨r1, r2⟩ := Kd.R_seg (okp := fun _ => False) (c := cells3 x) (seg := [u]) (j := j) (x' := x') H.rows (i : Int) (by omega) (by omega) rfl (fun j u hu => by rw [Int.toNat_natCast]; exact q1 j u hu) hj (by show kNd.M W base _ x' ((cells3 x).take j ++ [u] ++ (cells3 x).drop (j + 1)); rw [hx]; exact kNd_mkM W base _ x') (fun _ h => h.elim)
 rw [Int.toNat_natCast] at r1 r2
 have hw : W.setCells g (i * kNd.sz + j) [u] = W.setCell ⟨g, i * 3 + j, none⟩ u := rfl
 rw [hw] at r1 r2
 obtain ⟨cs, hq⟩ := H.qt
 refine ⟨⟨H.le, H.ne, (Below.heap_setCell W ⟨g, i * 3 + j, none⟩ u c (Ne.symm hne)).trans H.blk, ⟨cs, (Below.heap_setCell W ⟨g, i * 3 + j, none⟩ u q (Ne.symm hnq)).trans hq⟩, r1⟩, (Below.refl base W).setCell (p := ⟨g, i * 3 + j, none⟩) hb u, ⟨cells, hg⟩, hnq⟩
end Go.Proofs.YtkffhgiiejbnaaaGreat.Ch
namespace Go.Proofs.YtkffhgiiejbnaaaGreat.Ch
open Go.RowKit YtkffhgiiejbnaaaGreatW.PrintWords YtkffhgiiejbnaaaGreatW.PrintLast YtkffhgiiejbnaaaGreatW.PrintMore Aid Mp Hp Hq Tk
def askF (E : List Ent) (lim : Int) (L : List Nd) (i : Int) : Option (Int × Int × Int) :=
 if i = -1 then none else match L[i.toNat]? with
 | some n => if n.next = -1 then none else match L[n.next.toNat]? with
  | some m => match pairP E n.id m.id with
   | some r => if (r : Int) < lim then some ((r : Int), n.id, m.id) else none
   | none => none
  | none => none
 | none => none
def AskH (o : Option (Int × Int × Int)) (i : Int) (H H' : List (Th Wx)) : Prop := match o with
 | none => H' = H
 | some (r, a, b) => ∃ t, H' = ⟨r, i, t, ⟨i, a, b⟩⟩ :: H
theorem HpOf.more {W : World} {base h B : Nat} {l : List (Th Wx)} (H : HpOf W base h B l) : HpOf W base h (B + 1) l := by
 obtain ⟨v, n, l', h1, h2, h3, h4⟩ := H.out
 exact ⟨⟨v, n, l', h1, h2, by omega, h4⟩⟩
structure Asked (w w' : World) (base c : Nat) (v : Value) (pt q : Nat) (lim st : Int) (L : List Nd) (B : Nat) (H : List (Th Wx)) (o : Option (Int × Int × Int)) (i : Int) : Prop where
 mk :: (link : LkAt w' base c v pt q lim st L) (below : Below base w w') (queue : ∃ H', AskH o i H H' ∧ HpOf w' base q (B + 1) H')
theorem HpOf.qt {W : World} {base h B : Nat} {l : List (Th Wx)} (H : HpOf W base h B l) : ∃ cs, W.heap[h]? = some (.cells cs 288 (0, 0)) := by
 obtain ⟨v, n, l', h1, _⟩ := H.out
 exact ⟨_, h1.blk⟩
theorem ask_last {E : List Ent} {lim : Int} {L : List Nd} {i : Nat} {n : Nd} (hi : L[i]? = some n) (hn : n.next = -1) : askF E lim L (i : Int) = none := by
 unfold askF; rw [if_neg (by omega), Int.toNat_natCast, hi]; simp only; rw [if_pos hn]
theorem ask_two {E : List Ent} {lim : Int} {L : List Nd} {i j : Nat} {n m : Nd} (hi : L[i]? = some n) (hn : n.next = (j : Int)) (hj : L[j]? = some m) : askF E lim L (i : Int) = (match pairP E n.id m.id with | some r => if (r : Int) < lim then some ((r : Int), n.id, m.id) else none | none => none) := by
 unfold askF; rw [if_neg (by omega), Int.toNat_natCast, hi]; simp only; rw [if_neg (by omega), hn, Int.toNat_natCast, hj]
theorem asks_end {w : World} {base c : Nat} {v : Value} {pt q : Nat} {lim st : Int} {L : List Nd} {B : Nat} {H : List (Th Wx)} {E : List Ent} (HL : LkAt w base c v pt q lim st L) (HQ : HpOf w base q B H) :
  Calls Tryz.prog 178 #[.pointer (some ⟨c, 0, none⟩), .int .i64 (-1)] w fun e w' => e = .returned (.tuple #[]) ∧ Asked w w' base c v pt q lim st L B H (askF E lim L (-1)) (-1) := by
 have HL := As.mk HL
 have HQ := As.mk HQ
 rename_i x1 x2
 clear x1 x2
 go_enter Tryz.func178, Tryz.ntmps178
 go_wp2
 refine bodyPost_ret (results_none rfl _ _ _) rfl ?_
 exact ⟨rfl, HL.out, Below.refl _ _, H, rfl, HpOf.more HQ.out⟩
theorem asks_last {w : World} {base c : Nat} {v : Value} {pt q : Nat} {lim st : Int} {L : List Nd} {B : Nat} {H : List (Th Wx)} {E : List Ent} (HL : LkAt w base c v pt q lim st L) (HQ : HpOf w base q B H) (i : Nat) {n : Nd} (hi : L[i]? = some n) (hn : n.next = -1) :
  Calls Tryz.prog 178 #[.pointer (some ⟨c, 0, none⟩), .int .i64 (i : Int)] w fun e w' => e = .returned (.tuple #[]) ∧ Asked w w' base c v pt q lim st L B H (askF E lim L (i : Int)) (i : Int) := by
 have hlt : i < L.length := by rcases Nat.lt_or_ge i L.length with h | h; exact h; rw [List.getElem?_eq_none h] at hi; cases hi
 obtain ⟨g, cap, rfl, hb, hgl, hne, hnq, hcap, cells, hg⟩ := HL.form (by omega)
 have HA := As.mk (ask_last (E := E) (lim := lim) hi hn)
 have a2 := (HL.elem hi).1 2 _ rfl
 rw [hn] at a2
 have c1 := HL.c.2.1
 have HL := As.mk HL
 have HQ := As.mk HQ
 have hiI : (i : Int) < (L.length : Int) := by omega
 have hi0 : (0 : Int) ≤ (i : Int) := by omega
 have hi1 : ((i : Int) == -1) = false := by simpa using (show ¬ (i : Int) = -1 by omega)
 rename_i x1 x2
 clear x1 x2 hi hn hg hlt
 go_enter Tryz.func178, Tryz.ntmps178
 go_wp2
 refine bodyPost_ret (results_none rfl _ _ _) rfl ?_
 exact ⟨rfl, HL.out, Below.refl _ _, H, by rw [HA.out]; rfl, HpOf.more HQ.out⟩
end Go.Proofs.YtkffhgiiejbnaaaGreat.Ch
namespace Go.Proofs.YtkffhgiiejbnaaaGreat.Ch
open Go.RowKit YtkffhgiiejbnaaaGreatW.PrintWords YtkffhgiiejbnaaaGreatW.PrintLast YtkffhgiiejbnaaaGreatW.PrintMore Aid Mp Hp Hq Tk
theorem asks_two {w : World} {base c : Nat} {v : Value} {pt q : Nat} {lim st : Int} {L : List Nd} {B : Nat} {H : List (Th Wx)} {E : List Ent} (HL : LkAt w base c v pt q lim st L) (HQ : HpOf w base q B H) (HT : TabAt w pt E) (i j : Nat) {n m : Nd} (hi : L[i]? = some n) (hn : n.next = (j : Int)) (hj : L[j]? = some m) (hHl : H.length ≤ 900000000) (hB : B ≤ 900000000) :
  Calls Tryz.prog 178 #[.pointer (some ⟨c, 0, none⟩), .int .i64 (i : Int)] w fun e w' => e = .returned (.tuple #[]) ∧ Asked w w' base c v pt q lim st L B H (askF E lim L (i : Int)) (i : Int) := by
 have hlt : i < L.length := by rcases Nat.lt_or_ge i L.length with h | h; exact h; rw [List.getElem?_eq_none h] at hi; cases hi
 have hltj : j < L.length := by rcases Nat.lt_or_ge j L.length with h | h; exact h; rw [List.getElem?_eq_none h] at hj; cases hj
 obtain ⟨g, cap, rfl, hb, hgl, hne, hnq, hcap, cells, hg⟩ := HL.form (by omega)
 have HA := As.mk (ask_two (E := E) (lim := lim) hi hn hj)
 have HX := As.mk hi
 have HY := As.mk hj
 have c1 := HL.c.2.1
 have a2 := (HL.elem hi).1 2 _ rfl
 rw [hn] at a2
 have HNX := As.mk hn
 have HL := As.mk HL
 have HQ := As.mk HQ
 have HT := As.mk HT
 have hiI : (i : Int) < (L.length : Int) := by omega
 have hi0 : (0 : Int) ≤ (i : Int) := by omega
 have hjI : (j : Int) < (L.length : Int) := by omega
 have hj0 : (0 : Int) ≤ (j : Int) := by omega
 have hi1 : ((i : Int) == -1) = false := by simpa using (show ¬ (i : Int) = -1 by omega)
 have hj1 : ((j : Int) == -1) = false := by simpa using (show ¬ (j : Int) = -1 by omega)
 have HBD := As.mk (And.intro hHl hB)
 rename_i x1 x2 x3
 clear x1 x2 x3 hi hn hj hg hlt hltj hHl hB
 obtain ⟨nid, na, nn⟩ := n
 obtain ⟨mid, ma, mn⟩ := m
 simp only at HA HNX a2
 have hNX := HNX.out
 subst hNX
 clear HNX
 go_enter Tryz.func178, Tryz.ntmps178
 go_wp2
 clear c1 a2
 refine start_ (n := 26) (S := fun w' => Below w.heap.size w w') (ds := [25]) #[false, false, false, false, false, false, false, false, false, false, false, false, false, false, false, false, false, false, false, false, false, false, false, false, false, false] (by kernel_rfl) rfl rfl (below_drew1 (Below.refl _ _)) (fun hHeld => ?_)
 have HW9 := As.mk hHeld; clear hHeld; generalize w.drew = w9 at HW9 ⊢; have hHeld := HW9.out
 refine pI 0 (some 20) (bs 26 1) ?_
 refine pI 1 (some 21) (bs 26 3) ?_
 refine pI 2 (some 22) (bs 26 7) ?_
 refine pI 4 (some 24) (bs 26 23) ?_
 refine pI 8 (some 28) (bs 26 279) ?_
 refine pI 9 (some 29) (bs 26 791) ?_
 refine pI 10 (some 30) (bs 26 1815) ?_
 refine pI 12 (some 32) (bs 26 5911) ?_
 refine pI 13 (some 33) (bs 26 14103) ?_
 refine pI 14 (some 34) (bs 26 30487) ?_
 refine pI 16 (some 36) (bs 26 96023) ?_
 refine tI 3 (some 23) (bs 26 96031) rfl (by intro w' hS'; have s0 := hS'; have hh := HL.out.below hS'; have c1 := hh.c.2.1; have a0 := (hh.elem HX.out).1 0 _ rfl; have a2 := (hh.elem HX.out).1 2 _ rfl; have b0 := (hh.elem HY.out).1 0 _ rfl; simp only [Nat.add_zero] at a0 b0 a2; clear hh; go_simp; with_reducible rfl) hHeld ?_
 refine pI 5 (some 25) (bs 26 96063) ?_
 refine pI 6 (some 26) (bs 26 96127) ?_
 refine tI 7 (some 27) (bs 26 96255) rfl (by intro w' hS'; have s0 := hS'; have hh := HL.out.below hS'; have c1 := hh.c.2.1; have a0 := (hh.elem HX.out).1 0 _ rfl; have a2 := (hh.elem HX.out).1 2 _ rfl; have b0 := (hh.elem HY.out).1 0 _ rfl; simp only [Nat.add_zero] at a0 b0 a2; clear hh; go_simp; with_reducible rfl) hHeld ?_
 refine tI 11 (some 31) (bs 26 98303) rfl (by intro w' hS'; have s0 := hS'; have hh := HL.out.below hS'; have c1 := hh.c.2.1; have a0 := (hh.elem HX.out).1 0 _ rfl; have a2 := (hh.elem HX.out).1 2 _ rfl; have b0 := (hh.elem HY.out).1 0 _ rfl; simp only [Nat.add_zero] at a0 b0 a2; clear hh; go_simp; with_reducible rfl) hHeld ?_
 refine tI 15 (some 35) (bs 26 131071) rfl (by intro w' hS'; have s0 := hS'; have hh := HL.out.below hS'; have c1 := hh.c.2.1; have a0 := (hh.elem HX.out).1 0 _ rfl; have a2 := (hh.elem HX.out).1 2 _ rfl; have b0 := (hh.elem HY.out).1 0 _ rfl; simp only [Nat.add_zero] at a0 b0 a2; clear hh; go_simp; with_reducible rfl) hHeld ?_
 refine pI 17 (some 37) (bs 26 262143) ?_
 refine pI 18 (some 38) (bs 26 524287) ?_
 refine tI 19 (some 39) (bs 26 1048575) rfl (by intro w' hS'; have s0 := hS'; have hh := HL.out.below hS'; have c1 := hh.c.2.1; have a0 := (hh.elem HX.out).1 0 _ rfl; have a2 := (hh.elem HX.out).1 2 _ rfl; have b0 := (hh.elem HY.out).1 0 _ rfl; simp only [Nat.add_zero] at a0 b0 a2; clear hh; go_simp; with_reducible rfl) hHeld ?_
 refine pI 20 (some 40) (bs 26 2097151) ?_
 refine pI 21 (some 41) (bs 26 4194303) ?_
 refine tI 22 (some 42) (bs 26 8388607) rfl (by intro w' hS'; have s0 := hS'; have hh := HL.out.below hS'; have c1 := hh.c.2.1; have a0 := (hh.elem HX.out).1 0 _ rfl; have a2 := (hh.elem HX.out).1 2 _ rfl; have b0 := (hh.elem HY.out).1 0 _ rfl; simp only [Nat.add_zero] at a0 b0 a2; clear hh; go_simp; with_reducible rfl) hHeld ?_
 refine pI 23 (some 43) (bs 26 16777215) ?_
 refine one_ (i := 24) (N := some 4) (bs 26 33554431) rfl rfl (by kernel_rfl) (by decide) (fun K hK => ?_)
 refine value_ (w1 := w9.alloc (.cells #[.int .i64 0, .int .i64 0] 91)) (v := .pointer (some ⟨w9.heap.size, 0, none⟩)) (by rfl) rfl ?_ ?_
 ·first | (go_simp; done) | (go_simp; rfl)
 refine hK.out _ _ (below_alloc HW9.out _) (fun hHeld => ?_)
 clear hK K
 refine nI ?_
 refine last_ (i := 25) (N := none) (bs 26 67108863) rfl rfl (by kernel_rfl) (by decide) (fun K hK => ?_)
 refine skip_ (w1 := w9.alloc (.cells #[.int .i64 nid, .int .i64 mid] 91)) (by rfl) rfl ?_ ?_
 ·first | (go_simp; done) | (go_simp; rfl)
 refine hK.out _ _ ?_
 clear hK K
 refine done_ (by kernel_rfl) ?_
 have hba := below_alloc (Below.refl w9.heap.size w9) (.cells #[.int .i64 nid, .int .i64 mid] 91)
 have HB2 := As.mk (bt_ HW9.out hba)
 have HM2 := As.mk (Go.MapKept.heap_alloc w9 (.cells #[.int .i64 nid, .int .i64 mid] 91)).1
 clear hba HW9 hHeld
 generalize w9.alloc (.cells #[.int .i64 nid, .int .i64 mid] 91) = w2 at HB2 HM2 ⊢
 go_wp2
 cases hp : pairP E nid mid with
 | none =>
  rw [hp] at HA
  have HPP := As.mk hp
  clear hp
  refine start_ (n := 14) (S := fun w' => Below w2.heap.size w2 w') (ds := []) #[false, false, false, false, false, false, false, false, false, false, false, false, false, false] (by kernel_rfl) rfl rfl (below_drew1 (Below.refl _ _)) (fun hHeld => ?_)
  have HW3 := As.mk hHeld; clear hHeld; generalize w2.drew = w3 at HW3 ⊢; have hHeld := HW3.out
  refine pI 0 (some 45) (bs 14 1) ?_
  refine pI 1 (some 46) (bs 14 3) ?_
  refine pI 2 (some 47) (bs 14 7) ?_
  refine pI 4 (some 49) (bs 14 23) ?_
  refine pI 6 (some 51) (bs 14 87) ?_
  refine tI 3 (some 48) (bs 14 95) rfl (by intro w' hS'; have s0 := hS'; have hh := HL.out.below (bt_ HB2.out hS'); have c0 := hh.c.1; have hm := (hS'.block _ (blk_lt HM2.out)).trans HM2.out; have m0 := cell_of (i := 0) hm rfl; have m1 := cell_of (i := 1) hm rfl; clear hh hm; go_simp; with_reducible rfl) hHeld ?_
  refine tI 5 (some 50) (bs 14 127) rfl (by intro w' hS'; have s0 := hS'; have hh := HL.out.below (bt_ HB2.out hS'); have c0 := hh.c.1; have hm := (hS'.block _ (blk_lt HM2.out)).trans HM2.out; have m0 := cell_of (i := 0) hm rfl; have m1 := cell_of (i := 1) hm rfl; clear hh hm; go_simp; with_reducible rfl) hHeld ?_
  refine tI 7 (some 52) (bs 14 255) rfl (by intro w' hS'; have s0 := hS'; have hh := HL.out.below (bt_ HB2.out hS'); have c0 := hh.c.1; have hm := (hS'.block _ (blk_lt HM2.out)).trans HM2.out; have m0 := cell_of (i := 0) hm rfl; have m1 := cell_of (i := 1) hm rfl; clear hh hm; go_simp; with_reducible rfl) hHeld ?_
  refine one_ (i := 8) (N := some 53) (bs 14 511) rfl rfl (by kernel_rfl) (by decide) (fun K hK => ?_)
  refine goes_ Tryz.func182 (by kernel_rfl) rfl #[.pointer (some ⟨pt, 0, none⟩), .int .i64 nid, .int .i64 mid] (by rfl) rfl rfl (by simp [Act.eval]) ?_
  have hpa := pair_any (HT.out.below (bt_ HB2.out HW3.out)) nid mid
  rw [HPP.out] at hpa
  refine hpa.mono ?_
  clear hpa
  rintro e w10 ⟨rfl, rfl⟩
  refine ⟨_, rfl, ?_⟩
  refine hK.out _ _ HW3.out (fun _ => ?_)
  clear hK K hHeld
  refine nI ?_
  refine pI 9 (some 44) (bs 14 1023) ?_
  refine pI 10 (some 54) (bs 14 2047) ?_
  refine pI 11 (some 55) (bs 14 4095) ?_
  refine pI 12 (some 5) (bs 14 8191) ?_
  refine pI 13 (some 6) (bs 14 16383) ?_
  refine done_ (by kernel_rfl) ?_
  go_wp2
  go_end0
  have HB3 := bt_ HB2.out HW3.out
  exact ⟨rfl, HL.out.below HB3, HB3.mono (Nat.le_trans HL.out.le (Nat.le_of_lt HL.out.lt)), H, by rw [HA.out]; rfl, HpOf.more (HQ.out.below HB3)⟩
 | some r =>
  rw [hp] at HA
  have HPP := As.mk hp
  clear hp
  by_cases hr : (r : Int) < lim
  ·simp only [if_pos hr] at HA
   refine start_ (n := 14) (S := fun w' => Below w2.heap.size w2 w') (ds := []) #[false, false, false, false, false, false, false, false, false, false, false, false, false, false] (by kernel_rfl) rfl rfl (below_drew1 (Below.refl _ _)) (fun hHeld => ?_)
   have HW3 := As.mk hHeld; clear hHeld; generalize w2.drew = w3 at HW3 ⊢; have hHeld := HW3.out
   refine pI 0 (some 45) (bs 14 1) ?_
   refine pI 1 (some 46) (bs 14 3) ?_
   refine pI 2 (some 47) (bs 14 7) ?_
   refine pI 4 (some 49) (bs 14 23) ?_
   refine pI 6 (some 51) (bs 14 87) ?_
   refine tI 3 (some 48) (bs 14 95) rfl (by intro w' hS'; have s0 := hS'; have hh := HL.out.below (bt_ HB2.out hS'); have c0 := hh.c.1; have hm := (hS'.block _ (blk_lt HM2.out)).trans HM2.out; have m0 := cell_of (i := 0) hm rfl; have m1 := cell_of (i := 1) hm rfl; clear hh hm; go_simp; with_reducible rfl) hHeld ?_
   refine tI 5 (some 50) (bs 14 127) rfl (by intro w' hS'; have s0 := hS'; have hh := HL.out.below (bt_ HB2.out hS'); have c0 := hh.c.1; have hm := (hS'.block _ (blk_lt HM2.out)).trans HM2.out; have m0 := cell_of (i := 0) hm rfl; have m1 := cell_of (i := 1) hm rfl; clear hh hm; go_simp; with_reducible rfl) hHeld ?_
   refine tI 7 (some 52) (bs 14 255) rfl (by intro w' hS'; have s0 := hS'; have hh := HL.out.below (bt_ HB2.out hS'); have c0 := hh.c.1; have hm := (hS'.block _ (blk_lt HM2.out)).trans HM2.out; have m0 := cell_of (i := 0) hm rfl; have m1 := cell_of (i := 1) hm rfl; clear hh hm; go_simp; with_reducible rfl) hHeld ?_
   refine one_ (i := 8) (N := some 53) (bs 14 511) rfl rfl (by kernel_rfl) (by decide) (fun K hK => ?_)
   refine goes_ Tryz.func182 (by kernel_rfl) rfl #[.pointer (some ⟨pt, 0, none⟩), .int .i64 nid, .int .i64 mid] (by rfl) rfl rfl (by simp [Act.eval]) ?_
   have hpa := pair_any (HT.out.below (bt_ HB2.out HW3.out)) nid mid
   rw [HPP.out] at hpa
   refine hpa.mono ?_
   clear hpa
   rintro e w10 ⟨rfl, rfl⟩
   refine ⟨_, rfl, ?_⟩
   refine hK.out _ _ HW3.out (fun _ => ?_)
   clear hK K hHeld
   refine nI ?_
   refine pI 9 (some 44) (bs 14 1023) ?_
   refine pI 10 (some 54) (bs 14 2047) ?_
   refine pI 11 (some 55) (bs 14 4095) ?_
   refine pI 12 (some 5) (bs 14 8191) ?_
   refine pI 13 (some 6) (bs 14 16383) ?_
   refine done_ (by kernel_rfl) ?_
   have c3 := (HL.out.below (bt_ HB2.out HW3.out)).c.2.2.2.1
   have HB3 := As.mk (bt_ HB2.out HW3.out)
   have HM3 := As.mk ((HW3.out.block _ (blk_lt HM2.out)).trans HM2.out)
   clear HW3 HB2 HM2
   go_wp2
   clear c3
   refine start_ (n := 10) (S := fun w' => Below w3.heap.size w3 w') (ds := [9]) #[false, false, false, false, false, false, false, false, false, false] (by kernel_rfl) rfl rfl (below_drew1 (Below.refl _ _)) (fun hHeld => ?_)
   have HW4 := As.mk hHeld; clear hHeld; generalize w3.drew = w4 at HW4 ⊢; have hHeld := HW4.out
   refine pI 0 (some 65) (bs 10 1) ?_
   refine pI 1 (some 66) (bs 10 3) ?_
   refine pI 2 (some 67) (bs 10 7) ?_
   refine pI 4 (some 69) (bs 10 23) ?_
   refine pI 5 (some 70) (bs 10 55) ?_
   refine pI 6 (some 71) (bs 10 119) ?_
   refine tI 3 (some 68) (bs 10 127) rfl (by intro w' hS'; have s0 := hS'; have hh := HL.out.below (bt_ HB3.out hS'); have c2 := hh.c.2.2.1; have hm := (hS'.block _ (blk_lt HM3.out)).trans HM3.out; have m0 := cell_of (i := 0) hm rfl; have m1 := cell_of (i := 1) hm rfl; clear hh hm; go_simp; with_reducible rfl) hHeld ?_
   refine tI 7 (some 72) (bs 10 255) rfl (by intro w' hS'; have s0 := hS'; have hh := HL.out.below (bt_ HB3.out hS'); have c2 := hh.c.2.2.1; have hm := (hS'.block _ (blk_lt HM3.out)).trans HM3.out; have m0 := cell_of (i := 0) hm rfl; have m1 := cell_of (i := 1) hm rfl; clear hh hm; go_simp; with_reducible rfl) hHeld ?_
   refine pI 8 (some 73) (bs 10 511) ?_
   refine last_ (i := 9) (N := some 74) (bs 10 1023) rfl rfl (by kernel_rfl) (by decide) (fun K hK => ?_)
   refine goes_ Tryz.func183 (by kernel_rfl) rfl #[.pointer (some ⟨q, 0, none⟩), .int .i64 (r : Int), .int .i64 (i : Int), .agg #[.int .i64 (i : Int), .int .i64 nid, .int .i64 mid]] (by rfl) rfl rfl (by simp [Act.eval]) ?_
   refine (push_any (HQ.out.below (bt_ HB3.out HW4.out)) (r : Int) (i : Int) (i : Int) nid mid HBD.out.1 HBD.out.2).mono ?_
   rintro e w5 ⟨rfl, hqq, hbb, hkk⟩
   refine ⟨_, rfl, ?_⟩
   have HQ5 := As.mk hqq
   have HB5 := As.mk (((bt_ HB3.out HW4.out).mono (Nat.le_trans HL.out.le (Nat.le_of_lt HL.out.lt))).trans hbb)
   have HL5 := As.mk ((HL.out.below (bt_ HB3.out HW4.out)).kept hkk (HpOf.qt hqq.choose_spec))
   clear hqq hbb hkk hHeld
   refine hK.out _ _ ?_
   clear hK K
   refine done_ (by kernel_rfl) ?_
   go_wp2
   go_end0
   obtain ⟨t, ht⟩ := HQ5.out
   exact ⟨rfl, HL5.out, HB5.out, _, by rw [HA.out]; exact ⟨t, rfl⟩, ht⟩
  ·simp only [if_neg hr] at HA
   refine start_ (n := 14) (S := fun w' => Below w2.heap.size w2 w') (ds := []) #[false, false, false, false, false, false, false, false, false, false, false, false, false, false] (by kernel_rfl) rfl rfl (below_drew1 (Below.refl _ _)) (fun hHeld => ?_)
   have HW3 := As.mk hHeld; clear hHeld; generalize w2.drew = w3 at HW3 ⊢; have hHeld := HW3.out
   refine pI 0 (some 45) (bs 14 1) ?_
   refine pI 1 (some 46) (bs 14 3) ?_
   refine pI 2 (some 47) (bs 14 7) ?_
   refine pI 4 (some 49) (bs 14 23) ?_
   refine pI 6 (some 51) (bs 14 87) ?_
   refine tI 3 (some 48) (bs 14 95) rfl (by intro w' hS'; have s0 := hS'; have hh := HL.out.below (bt_ HB2.out hS'); have c0 := hh.c.1; have hm := (hS'.block _ (blk_lt HM2.out)).trans HM2.out; have m0 := cell_of (i := 0) hm rfl; have m1 := cell_of (i := 1) hm rfl; clear hh hm; go_simp; with_reducible rfl) hHeld ?_
   refine tI 5 (some 50) (bs 14 127) rfl (by intro w' hS'; have s0 := hS'; have hh := HL.out.below (bt_ HB2.out hS'); have c0 := hh.c.1; have hm := (hS'.block _ (blk_lt HM2.out)).trans HM2.out; have m0 := cell_of (i := 0) hm rfl; have m1 := cell_of (i := 1) hm rfl; clear hh hm; go_simp; with_reducible rfl) hHeld ?_
   refine tI 7 (some 52) (bs 14 255) rfl (by intro w' hS'; have s0 := hS'; have hh := HL.out.below (bt_ HB2.out hS'); have c0 := hh.c.1; have hm := (hS'.block _ (blk_lt HM2.out)).trans HM2.out; have m0 := cell_of (i := 0) hm rfl; have m1 := cell_of (i := 1) hm rfl; clear hh hm; go_simp; with_reducible rfl) hHeld ?_
   refine one_ (i := 8) (N := some 53) (bs 14 511) rfl rfl (by kernel_rfl) (by decide) (fun K hK => ?_)
   refine goes_ Tryz.func182 (by kernel_rfl) rfl #[.pointer (some ⟨pt, 0, none⟩), .int .i64 nid, .int .i64 mid] (by rfl) rfl rfl (by simp [Act.eval]) ?_
   have hpa := pair_any (HT.out.below (bt_ HB2.out HW3.out)) nid mid
   rw [HPP.out] at hpa
   refine hpa.mono ?_
   clear hpa
   rintro e w10 ⟨rfl, rfl⟩
   refine ⟨_, rfl, ?_⟩
   refine hK.out _ _ HW3.out (fun _ => ?_)
   clear hK K hHeld
   refine nI ?_
   refine pI 9 (some 44) (bs 14 1023) ?_
   refine pI 10 (some 54) (bs 14 2047) ?_
   refine pI 11 (some 55) (bs 14 4095) ?_
   refine pI 12 (some 5) (bs 14 8191) ?_
   refine pI 13 (some 6) (bs 14 16383) ?_
   refine done_ (by kernel_rfl) ?_
   have c3 := (HL.out.below (bt_ HB2.out HW3.out)).c.2.2.2.1
   go_wp2
   go_end0
   have HB3 := bt_ HB2.out HW3.out
   exact ⟨rfl, HL.out.below HB3, HB3.mono (Nat.le_trans HL.out.le (Nat.le_of_lt HL.out.lt)), H, by rw [HA.out]; rfl, HpOf.more (HQ.out.below HB3)⟩
end Go.Proofs.YtkffhgiiejbnaaaGreat.Ch
