import Derived.Test.YtkffhgiiejbnaaaGreatQChainD
set_option maxRecDepth 100000
set_option maxHeartbeats 400000
set_option linter.unusedVariables false
set_option linter.unusedSimpArgs false
set_option linter.unnecessarySimpa false
namespace Go.Proofs.YtkffhgiiejbnaaaGreat.Ch
open Go.RowKit YtkffhgiiejbnaaaGreatW.PrintWords YtkffhgiiejbnaaaGreatW.PrintLast YtkffhgiiejbnaaaGreatW.PrintMore Aid Mp Hp Hq Tk
theorem mod_set {α : Type} {L : List α} {i : Nat} {x : α} (f : α → α) (h : L[i]? = some x) : L.modify i f = L.set i (f x) := by
 apply List.ext_getElem?
 intro k
 rw [List.getElem?_modify, List.getElem?_set]
 by_cases e : i = k
 ·subst e
  have hlt : i < L.length := by rcases Nat.lt_or_ge i L.length with g | g; exact g; rw [List.getElem?_eq_none g] at h; cases h
  rw [List.getElem?_eq_getElem hlt] at h
  injection h with h
  simp [h, hlt]
 ·simp [e]
theorem set_ne' {α : Type} {L : List α} {i j : Nat} {x y : α} (h : L[i]? = some x) (hne : i ≠ j) : (L.set j y)[i]? = some x := by rw [List.getElem?_set, if_neg (Ne.symm hne)]; exact h
theorem set_eq' {α : Type} {L : List α} {i : Nat} {x y : α} (h : L[i]? = some x) : (L.set i y)[i]? = some y := by
 have hlt : i < L.length := by rcases Nat.lt_or_ge i L.length with g | g; exact g; rw [List.getElem?_eq_none g] at h; cases h
 rw [List.getElem?_set, if_pos rfl, if_pos hlt]
theorem join_sets {L : List Nd} {i j : Nat} {n m : Nd} {id : Int} (hij : i ≠ j) (hi : L[i]? = some n) (hj : L[j]? = some m) (after : Int) (ha : after = -1) :
  joinL L i j after id = ((L.set j ⟨-2, m.ahead, m.next⟩).set i ⟨id, n.ahead, n.next⟩).set i ⟨id, n.ahead, after⟩ := by
 unfold joinL
 simp only
 rw [if_pos ha, mod_set _ hj, mod_set _ (set_ne' hi hij), List.set_set]
theorem join_sets_k {L : List Nd} {i j k : Nat} {n m p : Nd} {id : Int} (hij : i ≠ j) (hik : k ≠ i) (hjk : k ≠ j) (hi : L[i]? = some n) (hj : L[j]? = some m) (hk : L[k]? = some p) :
  joinL L i j (k : Int) id = (((L.set j ⟨-2, m.ahead, m.next⟩).set i ⟨id, n.ahead, n.next⟩).set i ⟨id, n.ahead, (k : Int)⟩).set k ⟨p.id, (i : Int), p.next⟩ := by
 unfold joinL
 simp only
 rw [if_neg (by omega), mod_set _ hj, mod_set _ (set_ne' hi hij), Int.toNat_natCast, mod_set _ (set_ne' (set_ne' hk hjk) hik), List.set_set]
theorem AskH.len {o : Option (Int × Int × Int)} {i : Int} {H H' : List (Th Wx)} (h : AskH o i H H') : H'.length ≤ H.length + 1 := by
 cases o with
 | none => have : H' = H := h; rw [this]; omega
 | some x => obtain ⟨r, a, b⟩ := x; obtain ⟨t, ht⟩ := h; rw [ht]; simp
structure Joined (w w' : World) (base c : Nat) (v : Value) (pt q : Nat) (lim : Int) (L' : List Nd) (B : Nat) (H : List (Th Wx)) (o1 : Option (Int × Int × Int)) (i1 : Int) (o2 : Option (Int × Int × Int)) (i2 : Int) : Prop where
 mk :: (link : ∃ st, LkAt w' base c v pt q lim st L') (below : Below base w w') (queue : ∃ H1 H2, AskH o1 i1 H H1 ∧ AskH o2 i2 H1 H2 ∧ HpOf w' base q (B + 2) H2)
theorem join_end {w : World} {base c : Nat} {v : Value} {pt q : Nat} {lim st : Int} {L : List Nd} {B : Nat} {H : List (Th Wx)} {E : List Ent} {W0 : World} (HL : LkAt w base c v pt q lim st L) (HQ : HpOf w base q B H) (hW0 : W0.heap.size ≤ base) (HT0 : TabAt W0 pt E) (HB0 : Below base W0 w) (i j : Nat) (id : Int) {n m : Nd} (hij : i ≠ j) (hi : L[i]? = some n) (hn : n.next = (j : Int)) (hj : L[j]? = some m) (hm : m.next = (-1))
  (hI : (joinL L i j (-1) id)[i]? = some ⟨id, n.ahead, (-1)⟩) (hIg : Goes (joinL L i j (-1) id) ⟨id, n.ahead, (-1)⟩) (hA : n.ahead = -1 ∨ ∃ (k0 : Nat) (x : Nd), n.ahead = (k0 : Int) ∧ (joinL L i j (-1) id)[k0]? = some x ∧ Goes (joinL L i j (-1) id) x) (hHl : H.length ≤ 800000000) (hB : B ≤ 800000000) :
  Calls Tryz.prog 181 #[.pointer (some ⟨c, 0, none⟩), .int .i64 (i : Int), .int .i64 id] w fun e w' => e = .returned (.tuple #[]) ∧ Joined w w' base c v pt q lim (joinL L i j (-1) id) B H (askF E lim (joinL L i j (-1) id) n.ahead) n.ahead (askF E lim (joinL L i j (-1) id) (i : Int)) (i : Int) := by
 have hlt : i < L.length := by rcases Nat.lt_or_ge i L.length with h | h; exact h; rw [List.getElem?_eq_none h] at hi; cases hi
 have hltj : j < L.length := by rcases Nat.lt_or_ge j L.length with h | h; exact h; rw [List.getElem?_eq_none h] at hj; cases hj
 obtain ⟨g, cap, rfl, hb, hgl, hne, hnq, hcap, cells, hg⟩ := HL.form (by omega)
 have HJ := As.mk (join_sets (id := id) hij hi hj (-1) rfl)
 have hiI : (i : Int) < (L.length : Int) := by omega
 have hi0 : (0 : Int) ≤ (i : Int) := by omega
 have hjI : (j : Int) < (L.length : Int) := by omega
 have hj0 : (0 : Int) ≤ (j : Int) := by omega
 have HI := As.mk hI
 have HIg := As.mk hIg
 have HA := As.mk hA
 have HBD := As.mk (And.intro hHl hB)
 generalize joinL L i j (-1) id = L' at *
 clear hI hIg hA hHl hB
 obtain ⟨p1, p2, ⟨cs1, p3⟩, p4⟩ := HL.put hj 0 (.int .i64 (-2)) ⟨-2, m.ahead, m.next⟩ (by decide) rfl
 simp only [Nat.add_zero] at p1 p2
 have HL1 := As.mk p1
 have HB1 := As.mk p2
 have HQ1 := As.mk (HQ.far p3 hnq (by decide) (j * 3) (.int .i64 (-2)))
 have a2 := (HL.elem hi).1 2 _ rfl
 rw [hn] at a2
 have b2 := (HL.elem hj).1 2 _ rfl
 rw [hm] at b2
 have b0 := (HL.elem hj).1 0 _ rfl
 simp only [Nat.add_zero] at b0
 have bz := (HL.elem hj).2 0
 simp only [Nat.add_zero] at bz
 have c1 := HL.c.2.1
 have HI1 := As.mk (set_ne' (j := j) (y := (⟨-2, m.ahead, m.next⟩ : Nd)) hi hij)
 have HTT := As.mk (And.intro HT0 (And.intro HB0 hW0))
 have HN := As.mk (And.intro hn hm)
 clear p1 p2 p3 p4 hg hi hj hn hm HL HQ HT0 HB0 hW0 hlt hltj
 go_enter Tryz.func181, Tryz.ntmps181
 go_wp2
 clear a2 b2 b0 bz c1
 generalize w.setCell ⟨g, j * 3, none⟩ (.int .i64 (-2)) = w1 at *
 have c1 := HL1.out.c.2.1
 refine start_ (n := 18) (S := fun w' => w'.cell? ⟨c, 1, none⟩ = some (.slice (some ⟨g, 0, none⟩) L.length cap)) (ds := [14, 17]) #[false, false, false, false, false, false, false, false, false, false, false, false, false, false, false, false, false, false] (by kernel_rfl) rfl rfl (c1) (fun hHeld => ?_)
 have HL2 := As.mk (HL1.out.below (below_drew1 (Below.refl _ _))); have HQ2 := As.mk (HQ1.out.below (below_drew1 (Below.refl _ _))); have HB2 := As.mk (below_drew1 HB1.out); clear HL1 HQ1 HB1 c1; generalize w1.drew = w2 at HL2 HQ2 HB2 hHeld ⊢
 refine pI 0 (some 31) (bs 18 1) ?_
 refine pI 1 (some 32) (bs 18 3) ?_
 refine pI 2 (some 33) (bs 18 7) ?_
 refine pI 4 (some 35) (bs 18 23) ?_
 refine pI 5 (some 36) (bs 18 55) ?_
 refine pI 6 (some 37) (bs 18 119) ?_
 refine pI 7 (some 38) (bs 18 247) ?_
 refine pI 9 (some 40) (bs 18 759) ?_
 refine pI 10 (some 41) (bs 18 1783) ?_
 refine pI 11 (some 42) (bs 18 3831) ?_
 refine tI 3 (some 34) (bs 18 3839) rfl (by intro w' hS'; have s0 := hS'; go_simp; with_reducible rfl) hHeld ?_
 refine tI 8 (some 39) (bs 18 4095) rfl (by intro w' hS'; have s0 := hS'; go_simp; with_reducible rfl) hHeld ?_
 refine pI 12 (some 43) (bs 18 8191) ?_
 refine pI 13 (some 44) (bs 18 16383) ?_
 refine last_ (i := 14) (N := none) (bs 18 32767) rfl rfl (by kernel_rfl) (by decide) (fun K hK => ?_)
 clear hHeld
 obtain ⟨p1, p2, ⟨cs1, p3⟩, p4⟩ := HL2.out.put HI1.out 0 (.int .i64 id) ⟨id, n.ahead, n.next⟩ (by decide) rfl
 have HQ3 := As.mk (HQ2.out.far p3 p4 (by decide) (i * 3 + 0) (.int .i64 id))
 have hz := (HL2.out.elem HI1.out).2 0
 have hcc := (HL2.out.elem HI1.out).1 0 _ rfl
 simp only [Nat.add_zero] at p1 p2 hz hcc HQ3
 have HL3 := As.mk p1
 have HB3 := As.mk (HB2.out.trans p2)
 refine skip_ (w1 := w2.setCell ⟨g, i * 3, none⟩ (.int .i64 id)) (by rfl) rfl ?_ ?_
 ·first | (go_simp; done) | (go_simp; rfl)
 clear p1 p2 p3 p4 hz hcc HL2 HQ2 HB2
 generalize w2.setCell ⟨g, i * 3, none⟩ (.int .i64 id) = w3 at *
 have HI3 := As.mk (set_eq' (y := (⟨id, n.ahead, n.next⟩ : Nd)) HI1.out)
 refine hK.out _ _ ?_
 clear hK K
 refine pI 15 (some 45) (bs 18 65535) ?_
 refine pI 16 (some 46) (bs 18 131071) ?_
 refine last_ (i := 17) (N := none) (bs 18 262143) rfl rfl (by kernel_rfl) (by decide) (fun K hK => ?_)
 obtain ⟨p1, p2, ⟨cs1, p3⟩, p4⟩ := HL3.out.put HI3.out 2 (.int .i64 (-1)) ⟨id, n.ahead, (-1)⟩ (by decide) rfl
 have HQ4 := As.mk (HQ3.out.far p3 p4 (by decide) (i * 3 + 2) (.int .i64 (-1)))
 have hz := (HL3.out.elem HI3.out).2 2
 have hcc := (HL3.out.elem HI3.out).1 2 _ rfl
 have HL4 := As.mk p1
 have HB4 := As.mk (HB3.out.trans p2)
 refine skip_ (w1 := w3.setCell ⟨g, i * 3 + 2, none⟩ (.int .i64 (-1))) (by rfl) rfl ?_ ?_
 ·first | (go_simp; done) | (go_simp; rfl)
 clear p1 p2 p3 p4 hz hcc HL3 HQ3 HB3
 generalize w3.setCell ⟨g, i * 3 + 2, none⟩ (.int .i64 (-1)) = w4 at *
 refine hK.out _ _ ?_
 clear hK K
 refine done_ (by kernel_rfl) ?_
 have c4 := HL4.out.c.2.2.2.2
 have z4 := blk_frozen HL4.out.blk 4
 obtain ⟨csq, hcsq⟩ := HL4.out.qt
 have HL6 := As.mk (show LkAt (w4.setCell ⟨c, 4, none⟩ (.int .i64 (wrap64 (st + 1)))) base c (.slice (some ⟨g, 0, none⟩) L.length cap) pt q lim (wrap64 (st + 1)) L' from ⟨HL4.out.le, HL4.out.ne, blk_set HL4.out.blk 4 (.int .i64 (wrap64 (st + 1))), ⟨csq, (Below.heap_setCell w4 ⟨c, 4, none⟩ _ q (Ne.symm HL4.out.ne)).trans hcsq⟩, by rw [HJ.out]; exact Kd.R_set HL4.out.rows HL4.out.blk (by decide) 4 _⟩)
 have HQ6 := As.mk (HQ4.out.far HL4.out.blk HL4.out.ne (by decide) 4 (.int .i64 (wrap64 (st + 1))))
 have HB6 := As.mk (HB4.out.setCell (p := ⟨c, 4, none⟩) HL4.out.le (.int .i64 (wrap64 (st + 1))))
 clear hcsq
 have c61 := HL6.out.c.2.1
 have a61 := (HL6.out.elem HI.out).1 1 _ rfl
 go_wp2_with fail
 clear c4 z4 c61 a61 HL4 HQ4 HB4
 generalize w4.setCell ⟨c, 4, none⟩ (.int .i64 (wrap64 (st + 1))) = w6 at *
 have HT6 := As.mk (HTT.out.1.below ((HTT.out.2.1.trans HB6.out).mono HTT.out.2.2))
 go_at_call 178
 refine (asks_any HL6.out HQ6.out HT6.out n.ahead HA.out (by have := HBD.out.1; omega) (by have := HBD.out.2; omega)).mono ?_
 rintro e w8 ⟨rfl, hask⟩
 have HL8 := As.mk hask.link
 have HB8 := As.mk (HB6.out.trans hask.below)
 obtain ⟨H1, hh1, hh2⟩ := hask.queue
 have HAS1 := As.mk hh1
 have HQ8 := As.mk hh2
 clear hask hh1 hh2 HL6 HQ6 HB6 HT6
 have HT8 := As.mk (HTT.out.1.below ((HTT.out.2.1.trans HB8.out).mono HTT.out.2.2))
 go_wp2_with (go_at_call 178; refine (asks_any HL8.out HQ8.out HT8.out (i : Int) (.inr ⟨i, _, rfl, HI.out, HIg.out⟩) (by have := HBD.out.1; have := AskH.len HAS1.out; omega) (by have := HBD.out.2; omega)).mono ?_; rintro e w9 ⟨rfl, hask⟩; have HL9 := As.mk hask.link; have HB9 := As.mk (HB8.out.trans hask.below); obtain ⟨H2, hh1, hh2⟩ := hask.queue; have HAS2 := As.mk hh1; have HQ9 := As.mk hh2; clear hask hh1 hh2)
 go_end0
 exact ⟨rfl, ⟨_, HL9.out⟩, HB9.out, H1, H2, HAS1.out, HAS2.out, HQ9.out⟩
theorem join_two {w : World} {base c : Nat} {v : Value} {pt q : Nat} {lim st : Int} {L : List Nd} {B : Nat} {H : List (Th Wx)} {E : List Ent} {W0 : World} (HL : LkAt w base c v pt q lim st L) (HQ : HpOf w base q B H) (hW0 : W0.heap.size ≤ base) (HT0 : TabAt W0 pt E) (HB0 : Below base W0 w) {k : Nat} (i j : Nat) (id : Int) {n m : Nd} (hij : i ≠ j) (hi : L[i]? = some n) (hn : n.next = (j : Int)) (hj : L[j]? = some m) (hm : m.next = (k : Int)) {p : Nd} (hik : k ≠ i) (hjk : k ≠ j) (hk : L[k]? = some p)
  (hI : (joinL L i j (k : Int) id)[i]? = some ⟨id, n.ahead, (k : Int)⟩) (hIg : Goes (joinL L i j (k : Int) id) ⟨id, n.ahead, (k : Int)⟩) (hA : n.ahead = -1 ∨ ∃ (k0 : Nat) (x : Nd), n.ahead = (k0 : Int) ∧ (joinL L i j (k : Int) id)[k0]? = some x ∧ Goes (joinL L i j (k : Int) id) x) (hHl : H.length ≤ 800000000) (hB : B ≤ 800000000) :
  Calls Tryz.prog 181 #[.pointer (some ⟨c, 0, none⟩), .int .i64 (i : Int), .int .i64 id] w fun e w' => e = .returned (.tuple #[]) ∧ Joined w w' base c v pt q lim (joinL L i j (k : Int) id) B H (askF E lim (joinL L i j (k : Int) id) n.ahead) n.ahead (askF E lim (joinL L i j (k : Int) id) (i : Int)) (i : Int) := by
 have hlt : i < L.length := by rcases Nat.lt_or_ge i L.length with h | h; exact h; rw [List.getElem?_eq_none h] at hi; cases hi
 have hltj : j < L.length := by rcases Nat.lt_or_ge j L.length with h | h; exact h; rw [List.getElem?_eq_none h] at hj; cases hj
 obtain ⟨g, cap, rfl, hb, hgl, hne, hnq, hcap, cells, hg⟩ := HL.form (by omega)
 have HJ := As.mk (join_sets_k (id := id) hij hik hjk hi hj hk)
 have hiI : (i : Int) < (L.length : Int) := by omega
 have hi0 : (0 : Int) ≤ (i : Int) := by omega
 have hjI : (j : Int) < (L.length : Int) := by omega
 have hj0 : (0 : Int) ≤ (j : Int) := by omega
 have hltk : k < L.length := by rcases Nat.lt_or_ge k L.length with h | h; exact h; rw [List.getElem?_eq_none h] at hk; cases hk
 have hkI : (k : Int) < (L.length : Int) := by omega
 have hk0 : (0 : Int) ≤ (k : Int) := by omega
 have hk1 : ((k : Int) != -1) = true := by simpa using (show ¬ (k : Int) = -1 by omega)
 have HK := As.mk (set_ne' (j := i) (y := (⟨id, n.ahead, (k : Int)⟩ : Nd)) (set_ne' (j := i) (y := (⟨id, n.ahead, n.next⟩ : Nd)) (set_ne' (j := j) (y := (⟨-2, m.ahead, m.next⟩ : Nd)) hk hjk) hik) hik)
 clear hk hltk
 have HI := As.mk hI
 have HIg := As.mk hIg
 have HA := As.mk hA
 have HBD := As.mk (And.intro hHl hB)
 generalize joinL L i j (k : Int) id = L' at *
 clear hI hIg hA hHl hB
 obtain ⟨p1, p2, ⟨cs1, p3⟩, p4⟩ := HL.put hj 0 (.int .i64 (-2)) ⟨-2, m.ahead, m.next⟩ (by decide) rfl
 simp only [Nat.add_zero] at p1 p2
 have HL1 := As.mk p1
 have HB1 := As.mk p2
 have HQ1 := As.mk (HQ.far p3 hnq (by decide) (j * 3) (.int .i64 (-2)))
 have a2 := (HL.elem hi).1 2 _ rfl
 rw [hn] at a2
 have b2 := (HL.elem hj).1 2 _ rfl
 rw [hm] at b2
 have b0 := (HL.elem hj).1 0 _ rfl
 simp only [Nat.add_zero] at b0
 have bz := (HL.elem hj).2 0
 simp only [Nat.add_zero] at bz
 have c1 := HL.c.2.1
 have HI1 := As.mk (set_ne' (j := j) (y := (⟨-2, m.ahead, m.next⟩ : Nd)) hi hij)
 have HTT := As.mk (And.intro HT0 (And.intro HB0 hW0))
 have HN := As.mk (And.intro hn hm)
 clear p1 p2 p3 p4 hg hi hj hn hm HL HQ HT0 HB0 hW0 hlt hltj
 go_enter Tryz.func181, Tryz.ntmps181
 go_wp2
 clear a2 b2 b0 bz c1
 generalize w.setCell ⟨g, j * 3, none⟩ (.int .i64 (-2)) = w1 at *
 have c1 := HL1.out.c.2.1
 refine start_ (n := 18) (S := fun w' => w'.cell? ⟨c, 1, none⟩ = some (.slice (some ⟨g, 0, none⟩) L.length cap)) (ds := [14, 17]) #[false, false, false, false, false, false, false, false, false, false, false, false, false, false, false, false, false, false] (by kernel_rfl) rfl rfl (c1) (fun hHeld => ?_)
 have HL2 := As.mk (HL1.out.below (below_drew1 (Below.refl _ _))); have HQ2 := As.mk (HQ1.out.below (below_drew1 (Below.refl _ _))); have HB2 := As.mk (below_drew1 HB1.out); clear HL1 HQ1 HB1 c1; generalize w1.drew = w2 at HL2 HQ2 HB2 hHeld ⊢
 refine pI 0 (some 31) (bs 18 1) ?_
 refine pI 1 (some 32) (bs 18 3) ?_
 refine pI 2 (some 33) (bs 18 7) ?_
 refine pI 4 (some 35) (bs 18 23) ?_
 refine pI 5 (some 36) (bs 18 55) ?_
 refine pI 6 (some 37) (bs 18 119) ?_
 refine pI 7 (some 38) (bs 18 247) ?_
 refine pI 9 (some 40) (bs 18 759) ?_
 refine pI 10 (some 41) (bs 18 1783) ?_
 refine pI 11 (some 42) (bs 18 3831) ?_
 refine tI 3 (some 34) (bs 18 3839) rfl (by intro w' hS'; have s0 := hS'; go_simp; with_reducible rfl) hHeld ?_
 refine tI 8 (some 39) (bs 18 4095) rfl (by intro w' hS'; have s0 := hS'; go_simp; with_reducible rfl) hHeld ?_
 refine pI 12 (some 43) (bs 18 8191) ?_
 refine pI 13 (some 44) (bs 18 16383) ?_
 refine last_ (i := 14) (N := none) (bs 18 32767) rfl rfl (by kernel_rfl) (by decide) (fun K hK => ?_)
 clear hHeld
 obtain ⟨p1, p2, ⟨cs1, p3⟩, p4⟩ := HL2.out.put HI1.out 0 (.int .i64 id) ⟨id, n.ahead, n.next⟩ (by decide) rfl
 have HQ3 := As.mk (HQ2.out.far p3 p4 (by decide) (i * 3 + 0) (.int .i64 id))
 have hz := (HL2.out.elem HI1.out).2 0
 have hcc := (HL2.out.elem HI1.out).1 0 _ rfl
 simp only [Nat.add_zero] at p1 p2 hz hcc HQ3
 have HL3 := As.mk p1
 have HB3 := As.mk (HB2.out.trans p2)
 refine skip_ (w1 := w2.setCell ⟨g, i * 3, none⟩ (.int .i64 id)) (by rfl) rfl ?_ ?_
 ·first | (go_simp; done) | (go_simp; rfl)
 clear p1 p2 p3 p4 hz hcc HL2 HQ2 HB2
 generalize w2.setCell ⟨g, i * 3, none⟩ (.int .i64 id) = w3 at *
 have HI3 := As.mk (set_eq' (y := (⟨id, n.ahead, n.next⟩ : Nd)) HI1.out)
 refine hK.out _ _ ?_
 clear hK K
 refine pI 15 (some 45) (bs 18 65535) ?_
 refine pI 16 (some 46) (bs 18 131071) ?_
 refine last_ (i := 17) (N := none) (bs 18 262143) rfl rfl (by kernel_rfl) (by decide) (fun K hK => ?_)
 obtain ⟨p1, p2, ⟨cs1, p3⟩, p4⟩ := HL3.out.put HI3.out 2 (.int .i64 (k : Int)) ⟨id, n.ahead, (k : Int)⟩ (by decide) rfl
 have HQ4 := As.mk (HQ3.out.far p3 p4 (by decide) (i * 3 + 2) (.int .i64 (k : Int)))
 have hz := (HL3.out.elem HI3.out).2 2
 have hcc := (HL3.out.elem HI3.out).1 2 _ rfl
 have HL4 := As.mk p1
 have HB4 := As.mk (HB3.out.trans p2)
 refine skip_ (w1 := w3.setCell ⟨g, i * 3 + 2, none⟩ (.int .i64 (k : Int))) (by rfl) rfl ?_ ?_
 ·first | (go_simp; done) | (go_simp; rfl)
 clear p1 p2 p3 p4 hz hcc HL3 HQ3 HB3
 generalize w3.setCell ⟨g, i * 3 + 2, none⟩ (.int .i64 (k : Int)) = w4 at *
 refine hK.out _ _ ?_
 clear hK K
 refine done_ (by kernel_rfl) ?_
 obtain ⟨p1, p2, ⟨cs1, p3⟩, p4⟩ := HL4.out.put HK.out 1 (.int .i64 (i : Int)) ⟨p.id, (i : Int), p.next⟩ (by decide) rfl
 have HL5 := As.mk p1
 have HB5 := As.mk (HB4.out.trans p2)
 have HQ5 := As.mk (HQ4.out.far p3 p4 (by decide) (k * 3 + 1) (.int .i64 (i : Int)))
 have d1 := (HL4.out.elem HK.out).1 1 _ rfl
 have dz := (HL4.out.elem HK.out).2 1
 have c1 := HL4.out.c.2.1
 clear p1 p2 p3 p4 HL4 HB4 HQ4
 have hw5 : w4.setCell ⟨g, k * 3 + 1, none⟩ (.int .i64 (i : Int)) = w4.setCell ⟨g, k * 3 + 1, none⟩ (.int .i64 (i : Int)) := rfl
 obtain ⟨w5, hw5⟩ : ∃ w5, w5 = w4.setCell ⟨g, k * 3 + 1, none⟩ (.int .i64 (i : Int)) := ⟨_, rfl⟩
 rw [← hw5] at HL5 HB5 HQ5
 have HW5 := As.mk hw5
 clear hw5
 have c4 := HL5.out.c.2.2.2.2
 have z4 := blk_frozen HL5.out.blk 4
 obtain ⟨csq, hcsq⟩ := HL5.out.qt
 have HL6 := As.mk (show LkAt (w5.setCell ⟨c, 4, none⟩ (.int .i64 (wrap64 (st + 1)))) base c (.slice (some ⟨g, 0, none⟩) L.length cap) pt q lim (wrap64 (st + 1)) L' from ⟨HL5.out.le, HL5.out.ne, blk_set HL5.out.blk 4 (.int .i64 (wrap64 (st + 1))), ⟨csq, (Below.heap_setCell w5 ⟨c, 4, none⟩ _ q (Ne.symm HL5.out.ne)).trans hcsq⟩, by rw [HJ.out]; exact Kd.R_set HL5.out.rows HL5.out.blk (by decide) 4 _⟩)
 have HQ6 := As.mk (HQ5.out.far HL5.out.blk HL5.out.ne (by decide) 4 (.int .i64 (wrap64 (st + 1))))
 have HB6 := As.mk (HB5.out.setCell (p := ⟨c, 4, none⟩) HL5.out.le (.int .i64 (wrap64 (st + 1))))
 clear hcsq
 rw [HW5.out] at c4 z4 HL6 HQ6 HB6
 have c61 := HL6.out.c.2.1
 have a61 := (HL6.out.elem HI.out).1 1 _ rfl
 go_wp2_with fail
 clear c4 z4 c61 a61 HL5 HQ5 HB5
 generalize (w4.setCell ⟨g, k * 3 + 1, none⟩ (.int .i64 (i : Int))).setCell ⟨c, 4, none⟩ (.int .i64 (wrap64 (st + 1))) = w6 at *
 have HT6 := As.mk (HTT.out.1.below ((HTT.out.2.1.trans HB6.out).mono HTT.out.2.2))
 go_at_call 178
 refine (asks_any HL6.out HQ6.out HT6.out n.ahead HA.out (by have := HBD.out.1; omega) (by have := HBD.out.2; omega)).mono ?_
 rintro e w8 ⟨rfl, hask⟩
 have HL8 := As.mk hask.link
 have HB8 := As.mk (HB6.out.trans hask.below)
 obtain ⟨H1, hh1, hh2⟩ := hask.queue
 have HAS1 := As.mk hh1
 have HQ8 := As.mk hh2
 clear hask hh1 hh2 HL6 HQ6 HB6 HT6
 have HT8 := As.mk (HTT.out.1.below ((HTT.out.2.1.trans HB8.out).mono HTT.out.2.2))
 go_wp2_with (go_at_call 178; refine (asks_any HL8.out HQ8.out HT8.out (i : Int) (.inr ⟨i, _, rfl, HI.out, HIg.out⟩) (by have := HBD.out.1; have := AskH.len HAS1.out; omega) (by have := HBD.out.2; omega)).mono ?_; rintro e w9 ⟨rfl, hask⟩; have HL9 := As.mk hask.link; have HB9 := As.mk (HB8.out.trans hask.below); obtain ⟨H2, hh1, hh2⟩ := hask.queue; have HAS2 := As.mk hh1; have HQ9 := As.mk hh2; clear hask hh1 hh2)
 go_end0
 exact ⟨rfl, ⟨_, HL9.out⟩, HB9.out, H1, H2, HAS1.out, HAS2.out, HQ9.out⟩
end Go.Proofs.YtkffhgiiejbnaaaGreat.Ch
