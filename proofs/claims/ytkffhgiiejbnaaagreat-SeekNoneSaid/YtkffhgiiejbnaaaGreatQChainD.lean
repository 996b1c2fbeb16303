import Derived.Test.YtkffhgiiejbnaaaGreatQChainC
set_option maxRecDepth 100000
set_option maxHeartbeats 400000
set_option linter.unusedVariables false
set_option linter.unusedSimpArgs false
set_option linter.unnecessarySimpa false
namespace Go.Proofs.YtkffhgiiejbnaaaGreat.Ch
open Go.RowKit YtkffhgiiejbnaaaGreatW.PrintWords YtkffhgiiejbnaaaGreatW.PrintLast YtkffhgiiejbnaaaGreatW.PrintMore Aid Mp Hp Hq Tk
def Goes (L : List Nd) (n : Nd) : Prop := n.next = -1 ∨ ∃ (j : Nat) (m : Nd), n.next = (j : Int) ∧ L[j]? = some m
theorem asks_any {w : World} {base c : Nat} {v : Value} {pt q : Nat} {lim st : Int} {L : List Nd} {B : Nat} {H : List (Th Wx)} {E : List Ent} (HL : LkAt w base c v pt q lim st L) (HQ : HpOf w base q B H) (HT : TabAt w pt E) (i : Int) (hi : i = -1 ∨ ∃ (k : Nat) (n : Nd), i = (k : Int) ∧ L[k]? = some n ∧ Goes L n) (hHl : H.length ≤ 900000000) (hB : B ≤ 900000000) :
  Calls Tryz.prog 178 #[.pointer (some ⟨c, 0, none⟩), .int .i64 i] w fun e w' => e = .returned (.tuple #[]) ∧ Asked w w' base c v pt q lim st L B H (askF E lim L i) i := by
 rcases hi with rfl | ⟨k, n, rfl, hk, hn | ⟨j, m, hn, hm⟩⟩
 ·exact asks_end HL HQ
 ·exact asks_last HL HQ k hk hn
 ·exact asks_two HL HQ HT k j hk hn hm hHl hB
theorem stale_id {w : World} {base c : Nat} {v : Value} {pt q : Nat} {lim st : Int} {L : List Nd} (HL : LkAt w base c v pt q lim st L) (f : Nat) (a b : Int) {n : Nd} (hf : L[f]? = some n) (hne2 : n.id ≠ a) :
  Calls Tryz.prog 180 #[.pointer (some ⟨c, 0, none⟩), .agg #[.int .i64 (f : Int), .int .i64 a, .int .i64 b]] w fun e w' => e = .returned (.bool true) ∧ Below w.heap.size w w' := by
 have hlt : f < L.length := by rcases Nat.lt_or_ge f L.length with h | h; exact h; rw [List.getElem?_eq_none h] at hf; cases hf
 obtain ⟨g, cap, rfl, hb, hgl, hne, hnq, hcap, cells, hg⟩ := HL.form (by omega)
 have HX := As.mk hf
 have hiI : (f : Int) < (L.length : Int) := by omega
 have hi0 : (0 : Int) ≤ (f : Int) := by omega
 have e1 : (n.id != a) = true := by simpa using hne2
 clear hne2
 have HL := As.mk HL
 rename_i x1
 clear x1 hf hg hlt
 go_enter Tryz.func180, Tryz.ntmps180
 go_wp2
 have HB1 := As.mk (below_alloc (Below.refl w.heap.size w) (.cells #[.int .i64 (f : Int), .int .i64 a, .int .i64 b] 275))
 have HM1 := As.mk (Go.MapKept.heap_alloc w (.cells #[.int .i64 (f : Int), .int .i64 a, .int .i64 b] 275)).1
 generalize w.alloc (.cells #[.int .i64 (f : Int), .int .i64 a, .int .i64 b] 275) = w1 at HB1 HM1 ⊢
 refine start_ (n := 10) (S := fun w' => Below w1.heap.size w1 w') (ds := [9]) #[false, false, false, false, false, false, false, false, false, false] (by kernel_rfl) rfl rfl (below_drew1 (Below.refl _ _)) (fun hHeld => ?_)
 have HW9 := As.mk hHeld; clear hHeld; generalize w1.drew = w9 at HW9 ⊢; have hHeld := HW9.out
 refine pI 0 (some 6) (bs 10 1) ?_
 refine pI 1 (some 7) (bs 10 3) ?_
 refine pI 2 (some 8) (bs 10 7) ?_
 refine pI 4 (some 10) (bs 10 23) ?_
 refine tI 3 (some 9) (bs 10 31) rfl (by intro w' hS'; have s0 := hS'; have hh := HL.out.below (bt_ HB1.out hS'); have c1 := hh.c.2.1; have a0 := (hh.elem HX.out).1 0 _ rfl; have a1 := (hh.elem HX.out).1 1 _ rfl; have a2 := (hh.elem HX.out).1 2 _ rfl; have hm := (hS'.block _ (blk_lt HM1.out)).trans HM1.out; have m0 := cell_of (i := 0) hm rfl; simp only [Nat.add_zero] at a0 a1 a2; clear hh hm; go_simp; with_reducible rfl) hHeld ?_
 refine tI 5 (some 11) (bs 10 63) rfl (by intro w' hS'; have s0 := hS'; have hh := HL.out.below (bt_ HB1.out hS'); have c1 := hh.c.2.1; have a0 := (hh.elem HX.out).1 0 _ rfl; have a1 := (hh.elem HX.out).1 1 _ rfl; have a2 := (hh.elem HX.out).1 2 _ rfl; have hm := (hS'.block _ (blk_lt HM1.out)).trans HM1.out; have m0 := cell_of (i := 0) hm rfl; simp only [Nat.add_zero] at a0 a1 a2; clear hh hm; go_simp; with_reducible rfl) hHeld ?_
 refine pI 6 (some 12) (bs 10 127) ?_
 refine tI 7 (some 13) (bs 10 255) rfl (by intro w' hS'; have s0 := hS'; have hh := HL.out.below (bt_ HB1.out hS'); have c1 := hh.c.2.1; have a0 := (hh.elem HX.out).1 0 _ rfl; have a1 := (hh.elem HX.out).1 1 _ rfl; have a2 := (hh.elem HX.out).1 2 _ rfl; have hm := (hS'.block _ (blk_lt HM1.out)).trans HM1.out; have m0 := cell_of (i := 0) hm rfl; simp only [Nat.add_zero] at a0 a1 a2; clear hh hm; go_simp; with_reducible rfl) hHeld ?_
 refine one_ (i := 8) (N := some 5) (bs 10 511) rfl rfl (by kernel_rfl) (by decide) (fun K hK => ?_)
 refine value_ (w1 := w9.alloc (.cells #[.int .i64 0, .int .i64 0, .int .i64 0] 280)) (v := .pointer (some ⟨w9.heap.size, 0, none⟩)) (by rfl) rfl ?_ ?_
 ·first | (go_simp; done) | (go_simp; rfl)
 refine hK.out _ _ (below_alloc HW9.out _) (fun hHeld => ?_)
 clear hK K
 refine nI ?_
 refine last_ (i := 9) (N := none) (bs 10 1023) rfl rfl (by kernel_rfl) (by decide) (fun K hK => ?_)
 refine skip_ (w1 := w9.alloc (.cells #[.int .i64 n.id, .int .i64 n.ahead, .int .i64 n.next] 280)) (by rfl) rfl ?_ ?_
 ·first | (go_simp; done) | (go_simp; rfl)
 refine hK.out _ _ ?_
 clear hK K
 refine done_ (by kernel_rfl) ?_
 have hba := below_alloc (Below.refl w9.heap.size w9) (.cells #[.int .i64 n.id, .int .i64 n.ahead, .int .i64 n.next] 280)
 have HB2 := As.mk (bt_ (bt_ HB1.out HW9.out) hba)
 have HN2 := As.mk (Go.MapKept.heap_alloc w9 (.cells #[.int .i64 n.id, .int .i64 n.ahead, .int .i64 n.next] 280)).1
 have HM2 := As.mk ((hba.block _ (blk_lt ((HW9.out.block _ (blk_lt HM1.out)).trans HM1.out))).trans ((HW9.out.block _ (blk_lt HM1.out)).trans HM1.out))
 clear hba HW9 hHeld HB1 HM1
 generalize w9.alloc (.cells #[.int .i64 n.id, .int .i64 n.ahead, .int .i64 n.next] 280) = w2 at HB2 HM2 HN2 ⊢
 go_wp2
 refine start_ (n := 27) (S := fun w' => Below w2.heap.size w2 w') (ds := []) #[false, false, false, false, false, false, false, false, false, false, false, false, false, false, false, false, false, false, false, false, false, false, false, false, false, false, false] (by kernel_rfl) rfl rfl (below_drew1 (Below.refl _ _)) (fun hHeld => ?_)
 have HW3 := As.mk hHeld; clear hHeld; generalize w2.drew = w3 at HW3 ⊢; have hHeld := HW3.out
 refine pI 0 (some 14) (bs 27 1) ?_
 refine pI 2 (some 16) (bs 27 5) ?_
 refine pI 3 (some 17) (bs 27 13) ?_
 refine tI 1 (some 15) (bs 27 15) rfl (by intro w' hS'; have s0 := hS'; have hn2 := (hS'.block _ (blk_lt HN2.out)).trans HN2.out; have n0 := cell_of (i := 0) hn2 rfl; have n2 := cell_of (i := 2) hn2 rfl; have hm := (hS'.block _ (blk_lt HM2.out)).trans HM2.out; have m1 := cell_of (i := 1) hm rfl; have m2 := cell_of (i := 2) hm rfl; clear hn2 hm; go_simp; with_reducible rfl) hHeld ?_
 refine tI 4 (some 18) (bs 27 31) rfl (by intro w' hS'; have s0 := hS'; have hn2 := (hS'.block _ (blk_lt HN2.out)).trans HN2.out; have n0 := cell_of (i := 0) hn2 rfl; have n2 := cell_of (i := 2) hn2 rfl; have hm := (hS'.block _ (blk_lt HM2.out)).trans HM2.out; have m1 := cell_of (i := 1) hm rfl; have m2 := cell_of (i := 2) hm rfl; clear hn2 hm; go_simp; with_reducible rfl) hHeld ?_
 refine pI 5 (some 19) (bs 27 63) ?_
 refine pI 6 (some 20) (bs 27 127) ?_
 refine pO 7 (some 21) (bs 27 255) ?_
 refine pO 8 (some 22) (bs 27 511) ?_
 refine pO 9 (some 23) (bs 27 1023) ?_
 refine pI 10 (some 24) (bs 27 2047) ?_
 refine pI 11 (some 25) (bs 27 4095) ?_
 refine pO 12 (some 26) (bs 27 8191) ?_
 refine pO 13 (some 27) (bs 27 16383) ?_
 refine pO 14 (some 28) (bs 27 32767) ?_
 refine pO 16 (some 30) (bs 27 98303) ?_
 refine pO 21 (some 35) (bs 27 2195455) ?_
 refine pO 22 (some 36) (bs 27 6389759) ?_
 refine pO 15 (some 29) (bs 27 6422527) ?_
 refine pO 17 (some 31) (bs 27 6553599) ?_
 refine pO 18 (some 32) (bs 27 6815743) ?_
 refine pO 19 (some 33) (bs 27 7340031) ?_
 refine pO 20 (some 34) (bs 27 8388607) ?_
 refine pO 23 (some 37) (bs 27 16777215) ?_
 refine pO 24 (some 38) (bs 27 33554431) ?_
 refine pI 25 (some 39) (bs 27 67108863) ?_
 refine pI 26 (some 4) (bs 27 134217727) ?_
 refine done_ (by kernel_rfl) ?_
 go_wp2
 go_ret
 exact ⟨rfl, bt_ HB2.out HW3.out⟩
theorem stale_end {w : World} {base c : Nat} {v : Value} {pt q : Nat} {lim st : Int} {L : List Nd} (HL : LkAt w base c v pt q lim st L) (f : Nat) (a b : Int) {n : Nd} (hf : L[f]? = some n) (hid : n.id = a) (hnx : n.next = -1) :
  Calls Tryz.prog 180 #[.pointer (some ⟨c, 0, none⟩), .agg #[.int .i64 (f : Int), .int .i64 a, .int .i64 b]] w fun e w' => e = .returned (.bool true) ∧ Below w.heap.size w w' := by
 have hlt : f < L.length := by rcases Nat.lt_or_ge f L.length with h | h; exact h; rw [List.getElem?_eq_none h] at hf; cases hf
 obtain ⟨g, cap, rfl, hb, hgl, hne, hnq, hcap, cells, hg⟩ := HL.form (by omega)
 have HX := As.mk hf
 have hiI : (f : Int) < (L.length : Int) := by omega
 have hi0 : (0 : Int) ≤ (f : Int) := by omega
 have e1 : (a != a) = false := by simp
 obtain ⟨nid, na, nn⟩ := n
 simp only at hid hnx
 have hid2 := hid.symm
 subst hid2
 subst hnx
 have HL := As.mk HL
 rename_i x1
 clear x1 hf hg hlt
 go_enter Tryz.func180, Tryz.ntmps180
 go_wp2
 have HB1 := As.mk (below_alloc (Below.refl w.heap.size w) (.cells #[.int .i64 (f : Int), .int .i64 a, .int .i64 b] 275))
 have HM1 := As.mk (Go.MapKept.heap_alloc w (.cells #[.int .i64 (f : Int), .int .i64 a, .int .i64 b] 275)).1
 generalize w.alloc (.cells #[.int .i64 (f : Int), .int .i64 a, .int .i64 b] 275) = w1 at HB1 HM1 ⊢
 refine start_ (n := 10) (S := fun w' => Below w1.heap.size w1 w') (ds := [9]) #[false, false, false, false, false, false, false, false, false, false] (by kernel_rfl) rfl rfl (below_drew1 (Below.refl _ _)) (fun hHeld => ?_)
 have HW9 := As.mk hHeld; clear hHeld; generalize w1.drew = w9 at HW9 ⊢; have hHeld := HW9.out
 refine pI 0 (some 6) (bs 10 1) ?_
 refine pI 1 (some 7) (bs 10 3) ?_
 refine pI 2 (some 8) (bs 10 7) ?_
 refine pI 4 (some 10) (bs 10 23) ?_
 refine tI 3 (some 9) (bs 10 31) rfl (by intro w' hS'; have s0 := hS'; have hh := HL.out.below (bt_ HB1.out hS'); have c1 := hh.c.2.1; have a0 := (hh.elem HX.out).1 0 _ rfl; have a1 := (hh.elem HX.out).1 1 _ rfl; have a2 := (hh.elem HX.out).1 2 _ rfl; have hm := (hS'.block _ (blk_lt HM1.out)).trans HM1.out; have m0 := cell_of (i := 0) hm rfl; simp only [Nat.add_zero] at a0 a1 a2; clear hh hm; go_simp; with_reducible rfl) hHeld ?_
 refine tI 5 (some 11) (bs 10 63) rfl (by intro w' hS'; have s0 := hS'; have hh := HL.out.below (bt_ HB1.out hS'); have c1 := hh.c.2.1; have a0 := (hh.elem HX.out).1 0 _ rfl; have a1 := (hh.elem HX.out).1 1 _ rfl; have a2 := (hh.elem HX.out).1 2 _ rfl; have hm := (hS'.block _ (blk_lt HM1.out)).trans HM1.out; have m0 := cell_of (i := 0) hm rfl; simp only [Nat.add_zero] at a0 a1 a2; clear hh hm; go_simp; with_reducible rfl) hHeld ?_
 refine pI 6 (some 12) (bs 10 127) ?_
 refine tI 7 (some 13) (bs 10 255) rfl (by intro w' hS'; have s0 := hS'; have hh := HL.out.below (bt_ HB1.out hS'); have c1 := hh.c.2.1; have a0 := (hh.elem HX.out).1 0 _ rfl; have a1 := (hh.elem HX.out).1 1 _ rfl; have a2 := (hh.elem HX.out).1 2 _ rfl; have hm := (hS'.block _ (blk_lt HM1.out)).trans HM1.out; have m0 := cell_of (i := 0) hm rfl; simp only [Nat.add_zero] at a0 a1 a2; clear hh hm; go_simp; with_reducible rfl) hHeld ?_
 refine one_ (i := 8) (N := some 5) (bs 10 511) rfl rfl (by kernel_rfl) (by decide) (fun K hK => ?_)
 refine value_ (w1 := w9.alloc (.cells #[.int .i64 0, .int .i64 0, .int .i64 0] 280)) (v := .pointer (some ⟨w9.heap.size, 0, none⟩)) (by rfl) rfl ?_ ?_
 ·first | (go_simp; done) | (go_simp; rfl)
 refine hK.out _ _ (below_alloc HW9.out _) (fun hHeld => ?_)
 clear hK K
 refine nI ?_
 refine last_ (i := 9) (N := none) (bs 10 1023) rfl rfl (by kernel_rfl) (by decide) (fun K hK => ?_)
 refine skip_ (w1 := w9.alloc (.cells #[.int .i64 a, .int .i64 na, .int .i64 (-1)] 280)) (by rfl) rfl ?_ ?_
 ·first | (go_simp; done) | (go_simp; rfl)
 refine hK.out _ _ ?_
 clear hK K
 refine done_ (by kernel_rfl) ?_
 have hba := below_alloc (Below.refl w9.heap.size w9) (.cells #[.int .i64 a, .int .i64 na, .int .i64 (-1)] 280)
 have HB2 := As.mk (bt_ (bt_ HB1.out HW9.out) hba)
 have HN2 := As.mk (Go.MapKept.heap_alloc w9 (.cells #[.int .i64 a, .int .i64 na, .int .i64 (-1)] 280)).1
 have HM2 := As.mk ((hba.block _ (blk_lt ((HW9.out.block _ (blk_lt HM1.out)).trans HM1.out))).trans ((HW9.out.block _ (blk_lt HM1.out)).trans HM1.out))
 clear hba HW9 hHeld HB1 HM1
 generalize w9.alloc (.cells #[.int .i64 a, .int .i64 na, .int .i64 (-1)] 280) = w2 at HB2 HM2 HN2 ⊢
 go_wp2
 refine start_ (n := 27) (S := fun w' => Below w2.heap.size w2 w') (ds := []) #[false, false, false, false, false, false, false, false, false, false, false, false, false, false, false, false, false, false, false, false, false, false, false, false, false, false, false] (by kernel_rfl) rfl rfl (below_drew1 (Below.refl _ _)) (fun hHeld => ?_)
 have HW3 := As.mk hHeld; clear hHeld; generalize w2.drew = w3 at HW3 ⊢; have hHeld := HW3.out
 refine pI 0 (some 14) (bs 27 1) ?_
 refine pI 2 (some 16) (bs 27 5) ?_
 refine pI 3 (some 17) (bs 27 13) ?_
 refine tI 1 (some 15) (bs 27 15) rfl (by intro w' hS'; have s0 := hS'; have hn2 := (hS'.block _ (blk_lt HN2.out)).trans HN2.out; have n0 := cell_of (i := 0) hn2 rfl; have n2 := cell_of (i := 2) hn2 rfl; have hm := (hS'.block _ (blk_lt HM2.out)).trans HM2.out; have m1 := cell_of (i := 1) hm rfl; have m2 := cell_of (i := 2) hm rfl; clear hn2 hm; go_simp; with_reducible rfl) hHeld ?_
 refine tI 4 (some 18) (bs 27 31) rfl (by intro w' hS'; have s0 := hS'; have hn2 := (hS'.block _ (blk_lt HN2.out)).trans HN2.out; have n0 := cell_of (i := 0) hn2 rfl; have n2 := cell_of (i := 2) hn2 rfl; have hm := (hS'.block _ (blk_lt HM2.out)).trans HM2.out; have m1 := cell_of (i := 1) hm rfl; have m2 := cell_of (i := 2) hm rfl; clear hn2 hm; go_simp; with_reducible rfl) hHeld ?_
 refine pI 5 (some 19) (bs 27 63) ?_
 refine pI 6 (some 20) (bs 27 127) ?_
 refine pI 7 (some 21) (bs 27 255) ?_
 refine tI 8 (some 22) (bs 27 511) rfl (by intro w' hS'; have s0 := hS'; have hn2 := (hS'.block _ (blk_lt HN2.out)).trans HN2.out; have n0 := cell_of (i := 0) hn2 rfl; have n2 := cell_of (i := 2) hn2 rfl; have hm := (hS'.block _ (blk_lt HM2.out)).trans HM2.out; have m1 := cell_of (i := 1) hm rfl; have m2 := cell_of (i := 2) hm rfl; clear hn2 hm; go_simp; with_reducible rfl) hHeld ?_
 refine pI 9 (some 23) (bs 27 1023) ?_
 refine pI 10 (some 24) (bs 27 2047) ?_
 refine pI 11 (some 25) (bs 27 4095) ?_
 refine pO 12 (some 26) (bs 27 8191) ?_
 refine pO 13 (some 27) (bs 27 16383) ?_
 refine pO 14 (some 28) (bs 27 32767) ?_
 refine pO 16 (some 30) (bs 27 98303) ?_
 refine pO 21 (some 35) (bs 27 2195455) ?_
 refine pO 22 (some 36) (bs 27 6389759) ?_
 refine pO 15 (some 29) (bs 27 6422527) ?_
 refine pO 17 (some 31) (bs 27 6553599) ?_
 refine pO 18 (some 32) (bs 27 6815743) ?_
 refine pO 19 (some 33) (bs 27 7340031) ?_
 refine pO 20 (some 34) (bs 27 8388607) ?_
 refine pO 23 (some 37) (bs 27 16777215) ?_
 refine pO 24 (some 38) (bs 27 33554431) ?_
 refine pI 25 (some 39) (bs 27 67108863) ?_
 refine pI 26 (some 4) (bs 27 134217727) ?_
 refine done_ (by kernel_rfl) ?_
 go_wp2
 go_ret
 exact ⟨rfl, bt_ HB2.out HW3.out⟩
theorem stale_two {w : World} {base c : Nat} {v : Value} {pt q : Nat} {lim st : Int} {L : List Nd} (HL : LkAt w base c v pt q lim st L) (f : Nat) (a b : Int) {n : Nd} (hf : L[f]? = some n) {m : Nd} (j : Nat) (hid : n.id = a) (hnx : n.next = (j : Int)) (hj : L[j]? = some m) (hmb : m.id ≠ b) :
  Calls Tryz.prog 180 #[.pointer (some ⟨c, 0, none⟩), .agg #[.int .i64 (f : Int), .int .i64 a, .int .i64 b]] w fun e w' => e = .returned (.bool true) ∧ Below w.heap.size w w' := by
 have hlt : f < L.length := by rcases Nat.lt_or_ge f L.length with h | h; exact h; rw [List.getElem?_eq_none h] at hf; cases hf
 obtain ⟨g, cap, rfl, hb, hgl, hne, hnq, hcap, cells, hg⟩ := HL.form (by omega)
 have HX := As.mk hf
 have hiI : (f : Int) < (L.length : Int) := by omega
 have hi0 : (0 : Int) ≤ (f : Int) := by omega
 have hltj : j < L.length := by rcases Nat.lt_or_ge j L.length with h | h; exact h; rw [List.getElem?_eq_none h] at hj; cases hj
 have HY := As.mk hj
 have hjI : (j : Int) < (L.length : Int) := by omega
 have hj0 : (0 : Int) ≤ (j : Int) := by omega
 have hj1 : ((j : Int) == -1) = false := by simpa using (show ¬ (j : Int) = -1 by omega)
 have e1 : (a != a) = false := by simp
 obtain ⟨nid, na, nn⟩ := n
 simp only at hid hnx
 have hid2 := hid.symm
 subst hid2
 subst hnx
 clear hj hltj
 have e2 : (m.id != b) = true := by simpa using hmb
 clear hmb
 have HL := As.mk HL
 rename_i x1
 clear x1 hf hg hlt
 go_enter Tryz.func180, Tryz.ntmps180
 go_wp2
 have HB1 := As.mk (below_alloc (Below.refl w.heap.size w) (.cells #[.int .i64 (f : Int), .int .i64 a, .int .i64 b] 275))
 have HM1 := As.mk (Go.MapKept.heap_alloc w (.cells #[.int .i64 (f : Int), .int .i64 a, .int .i64 b] 275)).1
 generalize w.alloc (.cells #[.int .i64 (f : Int), .int .i64 a, .int .i64 b] 275) = w1 at HB1 HM1 ⊢
 refine start_ (n := 10) (S := fun w' => Below w1.heap.size w1 w') (ds := [9]) #[false, false, false, false, false, false, false, false, false, false] (by kernel_rfl) rfl rfl (below_drew1 (Below.refl _ _)) (fun hHeld => ?_)
 have HW9 := As.mk hHeld; clear hHeld; generalize w1.drew = w9 at HW9 ⊢; have hHeld := HW9.out
 refine pI 0 (some 6) (bs 10 1) ?_
 refine pI 1 (some 7) (bs 10 3) ?_
 refine pI 2 (some 8) (bs 10 7) ?_
 refine pI 4 (some 10) (bs 10 23) ?_
 refine tI 3 (some 9) (bs 10 31) rfl (by intro w' hS'; have s0 := hS'; have hh := HL.out.below (bt_ HB1.out hS'); have c1 := hh.c.2.1; have a0 := (hh.elem HX.out).1 0 _ rfl; have a1 := (hh.elem HX.out).1 1 _ rfl; have a2 := (hh.elem HX.out).1 2 _ rfl; have hm := (hS'.block _ (blk_lt HM1.out)).trans HM1.out; have m0 := cell_of (i := 0) hm rfl; simp only [Nat.add_zero] at a0 a1 a2; clear hh hm; go_simp; with_reducible rfl) hHeld ?_
 refine tI 5 (some 11) (bs 10 63) rfl (by intro w' hS'; have s0 := hS'; have hh := HL.out.below (bt_ HB1.out hS'); have c1 := hh.c.2.1; have a0 := (hh.elem HX.out).1 0 _ rfl; have a1 := (hh.elem HX.out).1 1 _ rfl; have a2 := (hh.elem HX.out).1 2 _ rfl; have hm := (hS'.block _ (blk_lt HM1.out)).trans HM1.out; have m0 := cell_of (i := 0) hm rfl; simp only [Nat.add_zero] at a0 a1 a2; clear hh hm; go_simp; with_reducible rfl) hHeld ?_
 refine pI 6 (some 12) (bs 10 127) ?_
 refine tI 7 (some 13) (bs 10 255) rfl (by intro w' hS'; have s0 := hS'; have hh := HL.out.below (bt_ HB1.out hS'); have c1 := hh.c.2.1; have a0 := (hh.elem HX.out).1 0 _ rfl; have a1 := (hh.elem HX.out).1 1 _ rfl; have a2 := (hh.elem HX.out).1 2 _ rfl; have hm := (hS'.block _ (blk_lt HM1.out)).trans HM1.out; have m0 := cell_of (i := 0) hm rfl; simp only [Nat.add_zero] at a0 a1 a2; clear hh hm; go_simp; with_reducible rfl) hHeld ?_
 refine one_ (i := 8) (N := some 5) (bs 10 511) rfl rfl (by kernel_rfl) (by decide) (fun K hK => ?_)
 refine value_ (w1 := w9.alloc (.cells #[.int .i64 0, .int .i64 0, .int .i64 0] 280)) (v := .pointer (some ⟨w9.heap.size, 0, none⟩)) (by rfl) rfl ?_ ?_
 ·first | (go_simp; done) | (go_simp; rfl)
 refine hK.out _ _ (below_alloc HW9.out _) (fun hHeld => ?_)
 clear hK K
 refine nI ?_
 refine last_ (i := 9) (N := none) (bs 10 1023) rfl rfl (by kernel_rfl) (by decide) (fun K hK => ?_)
 refine skip_ (w1 := w9.alloc (.cells #[.int .i64 a, .int .i64 na, .int .i64 (j : Int)] 280)) (by rfl) rfl ?_ ?_
 ·first | (go_simp; done) | (go_simp; rfl)
 refine hK.out _ _ ?_
 clear hK K
 refine done_ (by kernel_rfl) ?_
 have hba := below_alloc (Below.refl w9.heap.size w9) (.cells #[.int .i64 a, .int .i64 na, .int .i64 (j : Int)] 280)
 have HB2 := As.mk (bt_ (bt_ HB1.out HW9.out) hba)
 have HN2 := As.mk (Go.MapKept.heap_alloc w9 (.cells #[.int .i64 a, .int .i64 na, .int .i64 (j : Int)] 280)).1
 have HM2 := As.mk ((hba.block _ (blk_lt ((HW9.out.block _ (blk_lt HM1.out)).trans HM1.out))).trans ((HW9.out.block _ (blk_lt HM1.out)).trans HM1.out))
 clear hba HW9 hHeld HB1 HM1
 generalize w9.alloc (.cells #[.int .i64 a, .int .i64 na, .int .i64 (j : Int)] 280) = w2 at HB2 HM2 HN2 ⊢
 go_wp2
 refine start_ (n := 27) (S := fun w' => Below w2.heap.size w2 w') (ds := []) #[false, false, false, false, false, false, false, false, false, false, false, false, false, false, false, false, false, false, false, false, false, false, false, false, false, false, false] (by kernel_rfl) rfl rfl (below_drew1 (Below.refl _ _)) (fun hHeld => ?_)
 have HW3 := As.mk hHeld; clear hHeld; generalize w2.drew = w3 at HW3 ⊢; have hHeld := HW3.out
 refine pI 0 (some 14) (bs 27 1) ?_
 refine pI 2 (some 16) (bs 27 5) ?_
 refine pI 3 (some 17) (bs 27 13) ?_
 refine tI 1 (some 15) (bs 27 15) rfl (by intro w' hS'; have s0 := hS'; have hn2 := (hS'.block _ (blk_lt HN2.out)).trans HN2.out; have n0 := cell_of (i := 0) hn2 rfl; have n2 := cell_of (i := 2) hn2 rfl; have hm := (hS'.block _ (blk_lt HM2.out)).trans HM2.out; have m1 := cell_of (i := 1) hm rfl; have m2 := cell_of (i := 2) hm rfl; have hh := HL.out.below (bt_ HB2.out hS'); have c1 := hh.c.2.1; have b0 := (hh.elem HY.out).1 0 _ rfl; simp only [Nat.add_zero] at b0; clear hh; clear hn2 hm; go_simp; with_reducible rfl) hHeld ?_
 refine tI 4 (some 18) (bs 27 31) rfl (by intro w' hS'; have s0 := hS'; have hn2 := (hS'.block _ (blk_lt HN2.out)).trans HN2.out; have n0 := cell_of (i := 0) hn2 rfl; have n2 := cell_of (i := 2) hn2 rfl; have hm := (hS'.block _ (blk_lt HM2.out)).trans HM2.out; have m1 := cell_of (i := 1) hm rfl; have m2 := cell_of (i := 2) hm rfl; have hh := HL.out.below (bt_ HB2.out hS'); have c1 := hh.c.2.1; have b0 := (hh.elem HY.out).1 0 _ rfl; simp only [Nat.add_zero] at b0; clear hh; clear hn2 hm; go_simp; with_reducible rfl) hHeld ?_
 refine pI 5 (some 19) (bs 27 63) ?_
 refine pI 6 (some 20) (bs 27 127) ?_
 refine pI 7 (some 21) (bs 27 255) ?_
 refine tI 8 (some 22) (bs 27 511) rfl (by intro w' hS'; have s0 := hS'; have hn2 := (hS'.block _ (blk_lt HN2.out)).trans HN2.out; have n0 := cell_of (i := 0) hn2 rfl; have n2 := cell_of (i := 2) hn2 rfl; have hm := (hS'.block _ (blk_lt HM2.out)).trans HM2.out; have m1 := cell_of (i := 1) hm rfl; have m2 := cell_of (i := 2) hm rfl; have hh := HL.out.below (bt_ HB2.out hS'); have c1 := hh.c.2.1; have b0 := (hh.elem HY.out).1 0 _ rfl; simp only [Nat.add_zero] at b0; clear hh; clear hn2 hm; go_simp; with_reducible rfl) hHeld ?_
 refine pI 9 (some 23) (bs 27 1023) ?_
 refine pI 10 (some 24) (bs 27 2047) ?_
 refine pI 11 (some 25) (bs 27 4095) ?_
 refine pI 12 (some 26) (bs 27 8191) ?_
 refine pI 13 (some 27) (bs 27 16383) ?_
 refine pI 14 (some 28) (bs 27 32767) ?_
 refine pI 16 (some 30) (bs 27 98303) ?_
 refine pI 21 (some 35) (bs 27 2195455) ?_
 refine pI 22 (some 36) (bs 27 6389759) ?_
 refine tI 15 (some 29) (bs 27 6422527) rfl (by intro w' hS'; have s0 := hS'; have hn2 := (hS'.block _ (blk_lt HN2.out)).trans HN2.out; have n0 := cell_of (i := 0) hn2 rfl; have n2 := cell_of (i := 2) hn2 rfl; have hm := (hS'.block _ (blk_lt HM2.out)).trans HM2.out; have m1 := cell_of (i := 1) hm rfl; have m2 := cell_of (i := 2) hm rfl; have hh := HL.out.below (bt_ HB2.out hS'); have c1 := hh.c.2.1; have b0 := (hh.elem HY.out).1 0 _ rfl; simp only [Nat.add_zero] at b0; clear hh; clear hn2 hm; go_simp; with_reducible rfl) hHeld ?_
 refine tI 17 (some 31) (bs 27 6553599) rfl (by intro w' hS'; have s0 := hS'; have hn2 := (hS'.block _ (blk_lt HN2.out)).trans HN2.out; have n0 := cell_of (i := 0) hn2 rfl; have n2 := cell_of (i := 2) hn2 rfl; have hm := (hS'.block _ (blk_lt HM2.out)).trans HM2.out; have m1 := cell_of (i := 1) hm rfl; have m2 := cell_of (i := 2) hm rfl; have hh := HL.out.below (bt_ HB2.out hS'); have c1 := hh.c.2.1; have b0 := (hh.elem HY.out).1 0 _ rfl; simp only [Nat.add_zero] at b0; clear hh; clear hn2 hm; go_simp; with_reducible rfl) hHeld ?_
 refine pI 18 (some 32) (bs 27 6815743) ?_
 refine pI 19 (some 33) (bs 27 7340031) ?_
 refine tI 20 (some 34) (bs 27 8388607) rfl (by intro w' hS'; have s0 := hS'; have hn2 := (hS'.block _ (blk_lt HN2.out)).trans HN2.out; have n0 := cell_of (i := 0) hn2 rfl; have n2 := cell_of (i := 2) hn2 rfl; have hm := (hS'.block _ (blk_lt HM2.out)).trans HM2.out; have m1 := cell_of (i := 1) hm rfl; have m2 := cell_of (i := 2) hm rfl; have hh := HL.out.below (bt_ HB2.out hS'); have c1 := hh.c.2.1; have b0 := (hh.elem HY.out).1 0 _ rfl; simp only [Nat.add_zero] at b0; clear hh; clear hn2 hm; go_simp; with_reducible rfl) hHeld ?_
 refine tI 23 (some 37) (bs 27 16777215) rfl (by intro w' hS'; have s0 := hS'; have hn2 := (hS'.block _ (blk_lt HN2.out)).trans HN2.out; have n0 := cell_of (i := 0) hn2 rfl; have n2 := cell_of (i := 2) hn2 rfl; have hm := (hS'.block _ (blk_lt HM2.out)).trans HM2.out; have m1 := cell_of (i := 1) hm rfl; have m2 := cell_of (i := 2) hm rfl; have hh := HL.out.below (bt_ HB2.out hS'); have c1 := hh.c.2.1; have b0 := (hh.elem HY.out).1 0 _ rfl; simp only [Nat.add_zero] at b0; clear hh; clear hn2 hm; go_simp; with_reducible rfl) hHeld ?_
 refine pI 24 (some 38) (bs 27 33554431) ?_
 refine pI 25 (some 39) (bs 27 67108863) ?_
 refine pI 26 (some 4) (bs 27 134217727) ?_
 refine done_ (by kernel_rfl) ?_
 go_wp2
 go_ret
 exact ⟨rfl, bt_ HB2.out HW3.out⟩
theorem stale_not {w : World} {base c : Nat} {v : Value} {pt q : Nat} {lim st : Int} {L : List Nd} (HL : LkAt w base c v pt q lim st L) (f : Nat) (a b : Int) {n : Nd} (hf : L[f]? = some n) {m : Nd} (j : Nat) (hid : n.id = a) (hnx : n.next = (j : Int)) (hj : L[j]? = some m) (hmb : m.id = b) :
  Calls Tryz.prog 180 #[.pointer (some ⟨c, 0, none⟩), .agg #[.int .i64 (f : Int), .int .i64 a, .int .i64 b]] w fun e w' => e = .returned (.bool false) ∧ Below w.heap.size w w' := by
 have hlt : f < L.length := by rcases Nat.lt_or_ge f L.length with h | h; exact h; rw [List.getElem?_eq_none h] at hf; cases hf
 obtain ⟨g, cap, rfl, hb, hgl, hne, hnq, hcap, cells, hg⟩ := HL.form (by omega)
 have HX := As.mk hf
 have hiI : (f : Int) < (L.length : Int) := by omega
 have hi0 : (0 : Int) ≤ (f : Int) := by omega
 have hltj : j < L.length := by rcases Nat.lt_or_ge j L.length with h | h; exact h; rw [List.getElem?_eq_none h] at hj; cases hj
 have HY := As.mk hj
 have hjI : (j : Int) < (L.length : Int) := by omega
 have hj0 : (0 : Int) ≤ (j : Int) := by omega
 have hj1 : ((j : Int) == -1) = false := by simpa using (show ¬ (j : Int) = -1 by omega)
 have e1 : (a != a) = false := by simp
 obtain ⟨nid, na, nn⟩ := n
 simp only at hid hnx
 have hid2 := hid.symm
 subst hid2
 subst hnx
 clear hj hltj
 have e2 : (b != b) = false := by simp
 obtain ⟨mid, ma, mn⟩ := m
 simp only at hmb
 have hmb2 := hmb.symm
 subst hmb2
 have HL := As.mk HL
 rename_i x1
 clear x1 hf hg hlt
 go_enter Tryz.func180, Tryz.ntmps180
 go_wp2
 have HB1 := As.mk (below_alloc (Below.refl w.heap.size w) (.cells #[.int .i64 (f : Int), .int .i64 a, .int .i64 b] 275))
 have HM1 := As.mk (Go.MapKept.heap_alloc w (.cells #[.int .i64 (f : Int), .int .i64 a, .int .i64 b] 275)).1
 generalize w.alloc (.cells #[.int .i64 (f : Int), .int .i64 a, .int .i64 b] 275) = w1 at HB1 HM1 ⊢
 refine start_ (n := 10) (S := fun w' => Below w1.heap.size w1 w') (ds := [9]) #[false, false, false, false, false, false, false, false, false, false] (by kernel_rfl) rfl rfl (below_drew1 (Below.refl _ _)) (fun hHeld => ?_)
 have HW9 := As.mk hHeld; clear hHeld; generalize w1.drew = w9 at HW9 ⊢; have hHeld := HW9.out
 refine pI 0 (some 6) (bs 10 1) ?_
 refine pI 1 (some 7) (bs 10 3) ?_
 refine pI 2 (some 8) (bs 10 7) ?_
 refine pI 4 (some 10) (bs 10 23) ?_
 refine tI 3 (some 9) (bs 10 31) rfl (by intro w' hS'; have s0 := hS'; have hh := HL.out.below (bt_ HB1.out hS'); have c1 := hh.c.2.1; have a0 := (hh.elem HX.out).1 0 _ rfl; have a1 := (hh.elem HX.out).1 1 _ rfl; have a2 := (hh.elem HX.out).1 2 _ rfl; have hm := (hS'.block _ (blk_lt HM1.out)).trans HM1.out; have m0 := cell_of (i := 0) hm rfl; simp only [Nat.add_zero] at a0 a1 a2; clear hh hm; go_simp; with_reducible rfl) hHeld ?_
 refine tI 5 (some 11) (bs 10 63) rfl (by intro w' hS'; have s0 := hS'; have hh := HL.out.below (bt_ HB1.out hS'); have c1 := hh.c.2.1; have a0 := (hh.elem HX.out).1 0 _ rfl; have a1 := (hh.elem HX.out).1 1 _ rfl; have a2 := (hh.elem HX.out).1 2 _ rfl; have hm := (hS'.block _ (blk_lt HM1.out)).trans HM1.out; have m0 := cell_of (i := 0) hm rfl; simp only [Nat.add_zero] at a0 a1 a2; clear hh hm; go_simp; with_reducible rfl) hHeld ?_
 refine pI 6 (some 12) (bs 10 127) ?_
 refine tI 7 (some 13) (bs 10 255) rfl (by intro w' hS'; have s0 := hS'; have hh := HL.out.below (bt_ HB1.out hS'); have c1 := hh.c.2.1; have a0 := (hh.elem HX.out).1 0 _ rfl; have a1 := (hh.elem HX.out).1 1 _ rfl; have a2 := (hh.elem HX.out).1 2 _ rfl; have hm := (hS'.block _ (blk_lt HM1.out)).trans HM1.out; have m0 := cell_of (i := 0) hm rfl; simp only [Nat.add_zero] at a0 a1 a2; clear hh hm; go_simp; with_reducible rfl) hHeld ?_
 refine one_ (i := 8) (N := some 5) (bs 10 511) rfl rfl (by kernel_rfl) (by decide) (fun K hK => ?_)
 refine value_ (w1 := w9.alloc (.cells #[.int .i64 0, .int .i64 0, .int .i64 0] 280)) (v := .pointer (some ⟨w9.heap.size, 0, none⟩)) (by rfl) rfl ?_ ?_
 ·first | (go_simp; done) | (go_simp; rfl)
 refine hK.out _ _ (below_alloc HW9.out _) (fun hHeld => ?_)
 clear hK K
 refine nI ?_
 refine last_ (i := 9) (N := none) (bs 10 1023) rfl rfl (by kernel_rfl) (by decide) (fun K hK => ?_)
 refine skip_ (w1 := w9.alloc (.cells #[.int .i64 a, .int .i64 na, .int .i64 (j : Int)] 280)) (by rfl) rfl ?_ ?_
 ·first | (go_simp; done) | (go_simp; rfl)
 refine hK.out _ _ ?_
 clear hK K
 refine done_ (by kernel_rfl) ?_
 have hba := below_alloc (Below.refl w9.heap.size w9) (.cells #[.int .i64 a, .int .i64 na, .int .i64 (j : Int)] 280)
 have HB2 := As.mk (bt_ (bt_ HB1.out HW9.out) hba)
 have HN2 := As.mk (Go.MapKept.heap_alloc w9 (.cells #[.int .i64 a, .int .i64 na, .int .i64 (j : Int)] 280)).1
 have HM2 := As.mk ((hba.block _ (blk_lt ((HW9.out.block _ (blk_lt HM1.out)).trans HM1.out))).trans ((HW9.out.block _ (blk_lt HM1.out)).trans HM1.out))
 clear hba HW9 hHeld HB1 HM1
 generalize w9.alloc (.cells #[.int .i64 a, .int .i64 na, .int .i64 (j : Int)] 280) = w2 at HB2 HM2 HN2 ⊢
 go_wp2
 refine start_ (n := 27) (S := fun w' => Below w2.heap.size w2 w') (ds := []) #[false, false, false, false, false, false, false, false, false, false, false, false, false, false, false, false, false, false, false, false, false, false, false, false, false, false, false] (by kernel_rfl) rfl rfl (below_drew1 (Below.refl _ _)) (fun hHeld => ?_)
 have HW3 := As.mk hHeld; clear hHeld; generalize w2.drew = w3 at HW3 ⊢; have hHeld := HW3.out
 refine pI 0 (some 14) (bs 27 1) ?_
 refine pI 2 (some 16) (bs 27 5) ?_
 refine pI 3 (some 17) (bs 27 13) ?_
 refine tI 1 (some 15) (bs 27 15) rfl (by intro w' hS'; have s0 := hS'; have hn2 := (hS'.block _ (blk_lt HN2.out)).trans HN2.out; have n0 := cell_of (i := 0) hn2 rfl; have n2 := cell_of (i := 2) hn2 rfl; have hm := (hS'.block _ (blk_lt HM2.out)).trans HM2.out; have m1 := cell_of (i := 1) hm rfl; have m2 := cell_of (i := 2) hm rfl; have hh := HL.out.below (bt_ HB2.out hS'); have c1 := hh.c.2.1; have b0 := (hh.elem HY.out).1 0 _ rfl; simp only [Nat.add_zero] at b0; clear hh; clear hn2 hm; go_simp; with_reducible rfl) hHeld ?_
 refine tI 4 (some 18) (bs 27 31) rfl (by intro w' hS'; have s0 := hS'; have hn2 := (hS'.block _ (blk_lt HN2.out)).trans HN2.out; have n0 := cell_of (i := 0) hn2 rfl; have n2 := cell_of (i := 2) hn2 rfl; have hm := (hS'.block _ (blk_lt HM2.out)).trans HM2.out; have m1 := cell_of (i := 1) hm rfl; have m2 := cell_of (i := 2) hm rfl; have hh := HL.out.below (bt_ HB2.out hS'); have c1 := hh.c.2.1; have b0 := (hh.elem HY.out).1 0 _ rfl; simp only [Nat.add_zero] at b0; clear hh; clear hn2 hm; go_simp; with_reducible rfl) hHeld ?_
 refine pI 5 (some 19) (bs 27 63) ?_
 refine pI 6 (some 20) (bs 27 127) ?_
 refine pI 7 (some 21) (bs 27 255) ?_
 refine tI 8 (some 22) (bs 27 511) rfl (by intro w' hS'; have s0 := hS'; have hn2 := (hS'.block _ (blk_lt HN2.out)).trans HN2.out; have n0 := cell_of (i := 0) hn2 rfl; have n2 := cell_of (i := 2) hn2 rfl; have hm := (hS'.block _ (blk_lt HM2.out)).trans HM2.out; have m1 := cell_of (i := 1) hm rfl; have m2 := cell_of (i := 2) hm rfl; have hh := HL.out.below (bt_ HB2.out hS'); have c1 := hh.c.2.1; have b0 := (hh.elem HY.out).1 0 _ rfl; simp only [Nat.add_zero] at b0; clear hh; clear hn2 hm; go_simp; with_reducible rfl) hHeld ?_
 refine pI 9 (some 23) (bs 27 1023) ?_
 refine pI 10 (some 24) (bs 27 2047) ?_
 refine pI 11 (some 25) (bs 27 4095) ?_
 refine pI 12 (some 26) (bs 27 8191) ?_
 refine pI 13 (some 27) (bs 27 16383) ?_
 refine pI 14 (some 28) (bs 27 32767) ?_
 refine pI 16 (some 30) (bs 27 98303) ?_
 refine pI 21 (some 35) (bs 27 2195455) ?_
 refine pI 22 (some 36) (bs 27 6389759) ?_
 refine tI 15 (some 29) (bs 27 6422527) rfl (by intro w' hS'; have s0 := hS'; have hn2 := (hS'.block _ (blk_lt HN2.out)).trans HN2.out; have n0 := cell_of (i := 0) hn2 rfl; have n2 := cell_of (i := 2) hn2 rfl; have hm := (hS'.block _ (blk_lt HM2.out)).trans HM2.out; have m1 := cell_of (i := 1) hm rfl; have m2 := cell_of (i := 2) hm rfl; have hh := HL.out.below (bt_ HB2.out hS'); have c1 := hh.c.2.1; have b0 := (hh.elem HY.out).1 0 _ rfl; simp only [Nat.add_zero] at b0; clear hh; clear hn2 hm; go_simp; with_reducible rfl) hHeld ?_
 refine tI 17 (some 31) (bs 27 6553599) rfl (by intro w' hS'; have s0 := hS'; have hn2 := (hS'.block _ (blk_lt HN2.out)).trans HN2.out; have n0 := cell_of (i := 0) hn2 rfl; have n2 := cell_of (i := 2) hn2 rfl; have hm := (hS'.block _ (blk_lt HM2.out)).trans HM2.out; have m1 := cell_of (i := 1) hm rfl; have m2 := cell_of (i := 2) hm rfl; have hh := HL.out.below (bt_ HB2.out hS'); have c1 := hh.c.2.1; have b0 := (hh.elem HY.out).1 0 _ rfl; simp only [Nat.add_zero] at b0; clear hh; clear hn2 hm; go_simp; with_reducible rfl) hHeld ?_
 refine pI 18 (some 32) (bs 27 6815743) ?_
 refine pI 19 (some 33) (bs 27 7340031) ?_
 refine tI 20 (some 34) (bs 27 8388607) rfl (by intro w' hS'; have s0 := hS'; have hn2 := (hS'.block _ (blk_lt HN2.out)).trans HN2.out; have n0 := cell_of (i := 0) hn2 rfl; have n2 := cell_of (i := 2) hn2 rfl; have hm := (hS'.block _ (blk_lt HM2.out)).trans HM2.out; have m1 := cell_of (i := 1) hm rfl; have m2 := cell_of (i := 2) hm rfl; have hh := HL.out.below (bt_ HB2.out hS'); have c1 := hh.c.2.1; have b0 := (hh.elem HY.out).1 0 _ rfl; simp only [Nat.add_zero] at b0; clear hh; clear hn2 hm; go_simp; with_reducible rfl) hHeld ?_
 refine tI 23 (some 37) (bs 27 16777215) rfl (by intro w' hS'; have s0 := hS'; have hn2 := (hS'.block _ (blk_lt HN2.out)).trans HN2.out; have n0 := cell_of (i := 0) hn2 rfl; have n2 := cell_of (i := 2) hn2 rfl; have hm := (hS'.block _ (blk_lt HM2.out)).trans HM2.out; have m1 := cell_of (i := 1) hm rfl; have m2 := cell_of (i := 2) hm rfl; have hh := HL.out.below (bt_ HB2.out hS'); have c1 := hh.c.2.1; have b0 := (hh.elem HY.out).1 0 _ rfl; simp only [Nat.add_zero] at b0; clear hh; clear hn2 hm; go_simp; with_reducible rfl) hHeld ?_
 refine pI 24 (some 38) (bs 27 33554431) ?_
 refine pI 25 (some 39) (bs 27 67108863) ?_
 refine pI 26 (some 4) (bs 27 134217727) ?_
 refine done_ (by kernel_rfl) ?_
 go_wp2
 go_ret
 exact ⟨rfl, bt_ HB2.out HW3.out⟩
theorem stale_any {w : World} {base c : Nat} {v : Value} {pt q : Nat} {lim st : Int} {L : List Nd} (HL : LkAt w base c v pt q lim st L) (f : Nat) (a b : Int) {n : Nd} (hf : L[f]? = some n) (hg : Goes L n) :
  Calls Tryz.prog 180 #[.pointer (some ⟨c, 0, none⟩), .agg #[.int .i64 (f : Int), .int .i64 a, .int .i64 b]] w fun e w' => e = .returned (.bool (staleB L f a b)) ∧ Below w.heap.size w w' := by
 unfold staleB
 rw [hf]
 simp only
 by_cases h1 : n.id = a
 ·rw [if_neg (by simpa using h1)]
  rcases hg with hn | ⟨j, m, hn, hj⟩
  ·rw [if_pos hn]
   exact stale_end HL f a b hf h1 hn
  ·rw [if_neg (by omega), hn, Int.toNat_natCast, hj]
   simp only
   by_cases h2 : m.id = b
   ·rw [show decide (m.id ≠ b) = false by simpa using h2]
    exact stale_not HL f a b hf j h1 hn hj h2
   ·rw [show decide (m.id ≠ b) = true by simpa using h2]
    exact stale_two HL f a b hf j h1 hn hj h2
 ·rw [if_pos (by simpa using h1)]
  exact stale_id HL f a b hf h1
end Go.Proofs.YtkffhgiiejbnaaaGreat.Ch
