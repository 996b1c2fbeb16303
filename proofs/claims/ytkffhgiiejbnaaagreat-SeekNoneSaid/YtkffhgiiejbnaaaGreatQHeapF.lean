import Derived.Test.YtkffhgiiejbnaaaGreatQHeapE
set_option maxRecDepth 100000
set_option maxHeartbeats 400000
set_option linter.unusedVariables false
set_option linter.unusedSimpArgs false
namespace Go.Proofs.YtkffhgiiejbnaaaGreat.Hq
open Go.RowKit YtkffhgiiejbnaaaGreatW.PrintWords YtkffhgiiejbnaaaGreatW.PrintLast YtkffhgiiejbnaaaGreatW.PrintMore Aid Mp Hp
structure HpOf (W : World) (base h B : Nat) (l : List (Th Wx)) : Prop where
 mk :: (out : ∃ v n l', HpAt W base h v n l' ∧ 0 ≤ n ∧ n ≤ (B : Int) ∧ l'.Perm l ∧ Heap l')
theorem HpOf.below {W W' : World} {base h B : Nat} {l : List (Th Wx)} (H : HpOf W base h B l) (hb : Below W.heap.size W W') : HpOf W' base h B l := by
 obtain ⟨v, n, l', h1, h2⟩ := H.out
 exact ⟨⟨v, n, l', h1.below hb, h2⟩⟩
theorem HpOf.lt {W : World} {base h B : Nat} {l : List (Th Wx)} (H : HpOf W base h B l) : base ≤ h ∧ h < W.heap.size := by
 obtain ⟨v, n, l', h1, h2⟩ := H.out
 exact ⟨h1.le, h1.lt⟩
theorem HpAt.far {W : World} {base h : Nat} {v : Value} {n : Int} {l : List (Th Wx)} (H : HpAt W base h v n l) {g t : Nat} {cells : Array Value} (hg : W.heap[g]? = some (.cells cells t (0, 0))) (h1 : g ≠ h) (h2 : 294 ≠ t) (j : Nat) (u : Value) : HpAt (W.setCell ⟨g, j, none⟩ u) base h v n l :=
 ⟨H.le, (Below.heap_setCell W ⟨g, j, none⟩ u h (Ne.symm h1)).trans H.blk, Kd.R_set H.rows hg (fun q hq => by simp only [kTh_E, List.mem_singleton] at hq; rw [hq]; exact h2) j u⟩
theorem HpOf.far {W : World} {base h B : Nat} {l : List (Th Wx)} (H : HpOf W base h B l) {g t : Nat} {cells : Array Value} (hg : W.heap[g]? = some (.cells cells t (0, 0))) (h1 : g ≠ h) (h2 : 294 ≠ t) (j : Nat) (u : Value) : HpOf (W.setCell ⟨g, j, none⟩ u) base h B l := by
 obtain ⟨v, n, l', q1, q2⟩ := H.out
 exact ⟨⟨v, n, l', q1.far hg h1 h2 j u, q2⟩⟩
theorem HK.blk {h g t : Nat} {w w' : World} {cs : Array Value} (x : HK h w w') (hg : w.heap[g]? = some (.cells cs t (0, 0))) (h1 : g ≠ h) (h2 : t ≠ 294) : w'.heap[g]? = some (.cells cs t (0, 0)) :=
 (x.block g (blk_lt hg) h1 (fun cs' e => by rw [hg] at e; injection e with e; injection e with _ e; exact h2 e)).trans hg
theorem HK.of_grown {W w1 : World} {base h : Nat} {v : Value} {n : Int} {l : List (Th Wx)} (H : HpAt W base h v n l) (hg : W.grownBy w1 v.ownBlock) : HK h W w1 :=
 ⟨hg.size, fun k hk _ ht => hg.block k hk (fun e => by
  obtain ⟨cells, hc⟩ := Kd.R_typed H.rows k e.symm
  exact ht _ hc)⟩
theorem info_thing : (Tryz.prog.info? 294).map (fun i => (i.zero, i.size, i.bytes)) = some (some (.agg #[.int .i64 0, .int .i64 0, .int .i64 0, .int .i64 0, .int .i64 0, .int .i64 0]), 6, 48) := by kernel_rfl
theorem push_up {l l' : List (Th Wx)} {x : Th Wx} (hp : l'.Perm (l ++ [x])) : l'.Perm (x :: l) := hp.trans (List.perm_append_singleton x l)
theorem push_any {w : World} {base h B : Nat} {l : List (Th Wx)} (H : HpOf w base h B l) (r p f a b : Int) (hl : l.length ≤ 900000000) (hB : B ≤ 900000000) :
  Calls Tryz.prog 183 #[.pointer (some ⟨h, 0, none⟩), .int .i64 r, .int .i64 p, .agg #[.int .i64 f, .int .i64 a, .int .i64 b]] w fun e w' => e = .returned (.tuple #[]) ∧ (∃ t, HpOf w' base h (B + 1) (⟨r, p, t, ⟨f, a, b⟩⟩ :: l)) ∧ Below base w w' ∧ HK h w w' := by
 obtain ⟨v, n, l', hh, hn0, hnB, hp, hhp⟩ := H.out
 have hle : l'.length ≤ 900000000 := by rw [hp.length_eq]; exact hl
 have hnb : n ≤ 900000000 := by omega
 obtain ⟨A, c, rfl⟩ := Kd.R_slice hh.rows
 have HH0 := As.mk hh
 have HP := As.mk hp
 have HHP := As.mk hhp
 have HL := As.mk hle
 have hbw : base ≤ w.heap.size := Nat.le_trans hh.le (Nat.le_of_lt hh.lt)
 have HNE := As.mk (show w.heap.size ≠ h from Nat.ne_of_gt hh.lt)
 clear H hh hp hhp hl hle
 go_enter Tryz.func183, Tryz.ntmps183
 go_wp2
 have hba := below_alloc (Below.refl w.heap.size w) (.cells #[.int .i64 f, .int .i64 a, .int .i64 b] 275)
 have HH1 := As.mk (HH0.out.below hba)
 have HB1 := As.mk (hba.mono hbw)
 have HK1 := As.mk (HK.of_below (h := h) hba)
 have HM1 := As.mk (Go.MapKept.heap_alloc w (.cells #[.int .i64 f, .int .i64 a, .int .i64 b] 275)).1
 clear hba HH0
 generalize w.alloc (.cells #[.int .i64 f, .int .i64 a, .int .i64 b] 275) = w1 at HH1 HB1 HK1 HM1 ⊢
 have c0 := cell_of (i := 0) HH1.out.blk rfl
 have c1 := cell_of (i := 1) HH1.out.blk rfl
 have m0 := cell_of (i := 0) HM1.out rfl
 have m1 := cell_of (i := 1) HM1.out rfl
 have m2 := cell_of (i := 2) HM1.out rfl
 refine start_ (n := 19) (S := fun w' => w'.cell? ⟨h, 0, none⟩ = some (.slice A l'.length c) ∧ w'.cell? ⟨h, 1, none⟩ = some (.int .i64 n) ∧ w'.cell? ⟨w.heap.size, 0, none⟩ = some (.int .i64 f) ∧ w'.cell? ⟨w.heap.size, 1, none⟩ = some (.int .i64 a) ∧ w'.cell? ⟨w.heap.size, 2, none⟩ = some (.int .i64 b)) (ds := [18]) #[false, false, false, false, false, false, false, false, false, false, false, false, false, false, false, false, false, false, false] (by kernel_rfl) rfl rfl (⟨c0, c1, m0, m1, m2⟩) (fun hHeld => ?_)
 have HH3 := As.mk (HH1.out.below (below_drew1 (Below.refl _ _))); have HB3 := As.mk (below_drew1 HB1.out); have HK3 := As.mk (HK1.out.trans (HK.of_below (below_drew1 (Below.refl _ _)))); have HM3 := As.mk (show w1.drew.heap[w.heap.size]? = some (.cells #[.int .i64 f, .int .i64 a, .int .i64 b] 275 (0, 0)) from HM1.out); clear HH1 HB1 HK1 HM1 c0 c1 m0 m1 m2; generalize w1.drew = w3 at HH3 HB3 HK3 HM3 hHeld ⊢; have HH30 := As.mk hHeld
 refine pI 0 (some 10) (bs 19 1) ?_
 refine pI 1 (some 11) (bs 19 3) ?_
 refine pI 2 (some 12) (bs 19 7) ?_
 refine pI 3 (some 13) (bs 19 15) ?_
 refine pI 5 (some 15) (bs 19 47) ?_
 refine pI 6 (some 16) (bs 19 111) ?_
 refine pI 7 (some 17) (bs 19 239) ?_
 refine pI 8 (some 18) (bs 19 495) ?_
 refine pI 9 (some 19) (bs 19 1007) ?_
 refine tI 4 (some 14) (bs 19 1023) rfl (by intro w' hS'; obtain ⟨t0, t1, t2, t3, t4⟩ := hS'; go_simp; with_reducible rfl) hHeld ?_
 refine tI 10 (some 20) (bs 19 2047) rfl (by intro w' hS'; obtain ⟨t0, t1, t2, t3, t4⟩ := hS'; go_simp; with_reducible rfl) hHeld ?_
 refine pI 11 (some 21) (bs 19 4095) ?_
 refine tI 12 (some 22) (bs 19 8191) rfl (by intro w' hS'; obtain ⟨t0, t1, t2, t3, t4⟩ := hS'; go_simp; with_reducible rfl) hHeld ?_
 refine pI 13 (some 23) (bs 19 16383) ?_
 refine one_ (i := 14) (N := some 24) (bs 19 32767) rfl rfl (by kernel_rfl) (by decide) (fun K hK => ?_)
 refine value_ (w1 := w3.alloc (.cells #[.int .i64 r, .int .i64 p, .int .i64 n, .int .i64 f, .int .i64 a, .int .i64 b] 294)) (v := .slice (some ⟨w3.heap.size, 0, none⟩) 1 1) (by rfl) rfl ?_ ?_
 ·first | (go_simp; done) | (go_simp; rfl)
 refine hK.out _ _ (⟨pw_cell_below (below_alloc (Below.refl _ _) _) hHeld.1, pw_cell_below (below_alloc (Below.refl _ _) _) hHeld.2.1, pw_cell_below (below_alloc (Below.refl _ _) _) hHeld.2.2.1, pw_cell_below (below_alloc (Below.refl _ _) _) hHeld.2.2.2.1, pw_cell_below (below_alloc (Below.refl _ _) _) hHeld.2.2.2.2⟩) (fun hHeld => ?_)
 clear hK K
 refine nI ?_
 refine one_ (i := 15) (N := some 25) (bs 19 65535) rfl rfl (by kernel_rfl) (by decide) (fun K hK => ?_)
 refine Kd.R_append_step kTh (w0 := w) base (by rfl) (.tmp 14) (.tmp 24) 286 294 (.agg #[.int .i64 0, .int .i64 0, .int .i64 0, .int .i64 0, .int .i64 0, .int .i64 0]) 48 rfl Tryz.underlying286 info_thing rfl (by decide) (by omega) (.slice A l'.length c) l' ⟨r, p, n, ⟨f, a, b⟩⟩ [.int .i64 r, .int .i64 p, .int .i64 n, .int .i64 f, .int .i64 a, .int .i64 b] (fun _ => True) (fun _ => False) rfl ?aX ?aP (fun _ hk => hk.elim) (fun _ _ => trivial) HH3.out.rows HB3.out (Nat.le_trans hbw HB3.out.size) (by have := HL.out; omega) ?_
 (case aX => exact rfl)
 (case aP => exact kTh_mkM _ _ _ ⟨r, p, n, ⟨f, a, b⟩⟩)
 intro v1 w4 ho hb hg hat
 obtain ⟨A1, k1, rfl⟩ := Kd.R_slice ho
 have HB4 := As.mk hb
 have HK4 := As.mk (HK3.out.trans (HK.of_grown HH3.out hg))
 have HH4 := As.mk (blk_grown HH3.out.blk hg (Kd.R_ne HH3.out.rows HH3.out.blk (by decide)))
 have HO4 := As.mk ho
 have hfz := blk_frozen HH4.out 0
 have c04 := cell_of (i := 0) HH4.out rfl
 have hS4 := And.intro (cell_grown hg HH30.out.1 (Kd.R_ne HH3.out.rows HH3.out.blk (by decide))) (And.intro (cell_grown hg HH30.out.2.1 (Kd.R_ne HH3.out.rows HH3.out.blk (by decide))) (And.intro (cell_grown hg HH30.out.2.2.1 (Kd.R_ne HH3.out.rows HM3.out (by decide))) (And.intro (cell_grown hg HH30.out.2.2.2.1 (Kd.R_ne HH3.out.rows HM3.out (by decide))) (cell_grown hg HH30.out.2.2.2.2 (Kd.R_ne HH3.out.rows HM3.out (by decide))))))
 clear hb hg hat ho
 refine hK.out _ _ hS4 (fun hHeld => ?_)
 clear hK K hS4
 refine norm_ (a' := ?_) ?_ ?_
 rotate_left
 ·(show Act.put _ (some 25) _ = _; simp only [Act.put, List.setIfInBounds_toArray, List.set_cons_zero, List.set_cons_succ]; rfl)
 refine pI 16 (some 26) (bs 19 131071) ?_
 refine pI 17 (some 27) (bs 19 262143) ?_
 refine last_ (i := 18) (N := none) (bs 19 524287) rfl rfl (by kernel_rfl) (by decide) (fun K hK => ?_)
 refine skip_ (w1 := w4.setCell ⟨h, 0, none⟩ (.slice A1 (l' ++ [(⟨r, p, n, ⟨f, a, b⟩⟩ : Th Wx)]).length k1)) (by rfl) rfl ?_ ?_
 ·first | (go_simp; done) | (go_simp; rfl)
 refine hK.out _ _ ?_
 clear hK K
 refine done_ (by kernel_rfl) ?_
 have HPM := As.mk (push_up (HP.out.append_right [(⟨r, p, n, ⟨f, a, b⟩⟩ : Th Wx)]))
 have HUP := As.mk (push_inv (x := (⟨r, p, n, ⟨f, a, b⟩⟩ : Th Wx)) HHP.out)
 have HL2 := As.mk (show (l' ++ [(⟨r, p, n, ⟨f, a, b⟩⟩ : Th Wx)]).length = l'.length + 1 by simp)
 generalize l' ++ [(⟨r, p, n, ⟨f, a, b⟩⟩ : Th Wx)] = l2 at *
 have hlen : (l2.length : Int) - 1 = (l'.length : Int) := by have := HL2.out; omega
 have hlenb : (l2.length : Int) ≤ 900000001 := by have := HL2.out; have := HL.out; omega
 have hlen1 : (1 : Int) ≤ (l2.length : Int) := by have := HL2.out; omega
 have HH5 := As.mk (HpAt.mk HH3.out.le (blk_set HH4.out 0 (.slice A1 l2.length k1)) (Kd.R_set HO4.out HH4.out (by decide) 0 (.slice A1 l2.length k1)))
 have HB5 := As.mk (HB4.out.setCell (p := ⟨h, 0, none⟩) HH3.out.le (.slice A1 l2.length k1))
 have HK5 := As.mk (HK4.out.trans (HK.set w4 0 (.slice A1 l2.length k1)))
 clear HH3 HB3 HK3 HM3 HB4 HK4 HH4 HO4 hHeld HH30 hfz c04
 generalize w4.setCell ⟨h, 0, none⟩ (.slice A1 l2.length k1) = w5 at *
 have c5 := cell_of (i := 1) HH5.out.blk rfl
 have c50 := cell_of (i := 0) HH5.out.blk rfl
 have z5 := blk_frozen HH5.out.blk 1
 have HH6 := As.mk (show HpAt (w5.setCell ⟨h, 1, none⟩ (.int .i64 (n + 1))) base h (.slice A1 l2.length k1) (n + 1) l2 from HpAt.mk HH5.out.le (blk_set HH5.out.blk 1 (.int .i64 (n + 1))) (Kd.R_set HH5.out.rows HH5.out.blk (by decide) 1 (.int .i64 (n + 1))))
 have HB6 := As.mk (HB5.out.setCell (p := ⟨h, 1, none⟩) HH5.out.le (.int .i64 (n + 1)))
 have HK6 := As.mk (HK5.out.trans (HK.set w5 1 (.int .i64 (n + 1))))
 have c60 := cell_of (i := 0) HH6.out.blk rfl
 have HU := As.mk (up_any HH6.out l'.length (by have := HL2.out; omega) HUP.out)
 go_wp2_with (go_at_call 187; refine HU.out.mono ?_; rintro e w7 ⟨rfl, hs⟩; have HS := As.mk hs; clear hs HU)
 go_end0
 obtain ⟨⟨l3, q1, q2, q3⟩, q4, q5⟩ := HS.out
 exact ⟨rfl, ⟨n, ⟨⟨_, _, l3, q1, by omega, by omega, q2.trans HPM.out, q3⟩⟩⟩, HB6.out.trans q4, HK6.out.trans q5⟩
end Go.Proofs.YtkffhgiiejbnaaaGreat.Hq
