import Derived.Deep.RegionHeld3
import Derived.Test.YtkffhgiiejbnaaaGreatQSetD
set_option maxRecDepth 100000
set_option maxHeartbeats 2000000
set_option linter.unusedVariables false
set_option linter.unusedSimpArgs false
namespace Go.Proofs.YtkffhgiiejbnaaaGreat.Mk
open Go.RowKit YtkffhgiiejbnaaaGreatW.PrintWords YtkffhgiiejbnaaaGreatW.PrintLast YtkffhgiiejbnaaaGreatW.PrintMore Rf Aid Mp
attribute [local go_sem] Aid.max_two Aid.min_two min2_mn max2_mx
theorem frozen_of {w : World} {p t : Nat} {cs : Array Value} (h : w.heap[p]? = some (.cells cs t (0, 0))) (o : Nat) : w.frozen? ⟨p, o, none⟩ = false := by
 simp [World.frozen?, h]
theorem bt0 (s : ByteArray) (h : 0 < s.size) : bt s 0 = ((s[0]).toNat : Int) := (bt_at s 0 h).symm
theorem info_sp : (Tryz.prog.info? 93).map (fun i => (i.zero, i.size, i.bytes)) = some (some (.agg #[.int .i64 0, .string ⟨#[]⟩]), 2, 24) := by kernel_rfl
theorem idl_snoc (S : List Sp) (x : Sp) : idl (S ++ [x]) = idl S ++ [(x.f0, .int .i64 (S.length : Int))] := by simp [idl, List.zipIdx_append]
theorem txl_snoc (S : List Sp) (x : Sp) : txl (S ++ [x]) = txl S ++ [(x.f1, .int .i64 (S.length : Int))] := by simp [txl, List.zipIdx_append]
theorem most_snoc (S : List Sp) (x : Sp) : mostOf (S ++ [x]) = max (mostOf S) x.f1.size := by simp [mostOf]
theorem first_snoc (S : List Sp) (x : Sp) (i : Nat) : firstOf (S ++ [x]) i = (firstOf S i || decide (bt x.f1 0 = (i : Int))) := by simp [firstOf]
theorem add_yes {w : World} {base p : Nat} {v : Value} {bi bt : Nat} {S : List Sp} (h : SetOwn w base p v bi bt S) (x : Sp) (hok : addE S x = 0) (hbase : base ≤ w.heap.size) :
  Calls Tryz.prog 152 #[.pointer (some ⟨p, 0, none⟩), spV x] w fun e w' => e = .returned (.int .i64 0) ∧ ∃ v', SetOwn w' base p v' bi bt (S ++ [x]) ∧ Below base w w' := by
 obtain ⟨A, c, rfl, hc, _⟩ := Kd.R_reads h.raw.rows
 have hp : p < w.heap.size := World.block_lt_of_cell? w _ h.raw.c0
 have c0 := h.raw.c0
 have c1 := h.raw.c1
 have c2 := h.raw.c2
 have h' := h.below (below_alloc (Below.refl w.heap.size w) (.cells #[.int .i64 x.f0, .string x.f1] 93))
 have hok0 := hok
 unfold addE at hok0
 have hg : goodB x = true := by
  cases hg : goodB x with
  | true => rfl
  | false => rw [hg] at hok0; simp at hok0
 rw [hg, if_pos rfl] at hok0
 have hf : S.length < 32 := by
  by_cases hf : S.length < 32
  ·exact hf
  ·rw [if_neg hf] at hok0; omega
 rw [if_pos hf] at hok0
 have hi1 : idxI S x.f0 = none := by
  cases hi : idxI S x.f0 with
  | none => rfl
  | some j => rw [hi] at hok0; simp at hok0
 have hi2 : idx S x.f1 = none := by
  cases hi : idx S x.f1 with
  | none => rfl
  | some j => rw [hi] at hok0; simp at hok0
 clear hok0
 have hL1 : ∀ m, (Instr.lookup 188 (.map (some bi)) (.int .i64 x.f0) true).run Tryz.prog ((w.alloc (.cells #[.int .i64 x.f0, .string x.f1] 93)).drewN m) = .ok (.tuple #[(get? (idl S) x.f0).getD (.int .i64 0), .bool (get? (idl S) x.f0).isSome]) ((w.alloc (.cells #[.int .i64 x.f0, .string x.f1] 93)).drewN m) := fun m =>
  lookup_ok (E := encInt) Tryz.underlying188 Tryz.underlying3 (h'.raw.ids.of_block (by simp)) x.f0 (by kernel_rfl)
 have hL2 : ∀ m, (Instr.lookup 189 (.map (some bt)) (.string x.f1) true).run Tryz.prog ((w.alloc (.cells #[.int .i64 x.f0, .string x.f1] 93)).drewN m) = .ok (.tuple #[(get? (txl S) x.f1).getD (.int .i64 0), .bool (get? (txl S) x.f1).isSome]) ((w.alloc (.cells #[.int .i64 x.f0, .string x.f1] 93)).drewN m) := fun m =>
  lookup_ok (E := encStr) Tryz.underlying189 Tryz.underlying9 (h'.raw.texts.of_block (by simp)) x.f1 (by kernel_rfl)
 rw [get_idl, hi1] at hL1
 rw [get_txl, hi2] at hL2
 have HF := As.mk h.few
 have HH := As.mk h
 clear h h'
 simp only [Option.map_none, Option.getD_none, Option.isSome_none] at hL1 hL2
 have HX := As.mk (right_any x)
 rw [hg] at HX
 unfold spV at HX
 show Calls Tryz.prog _ #[_, .agg #[.int .i64 x.f0, .string x.f1]] w _
 have hf' : ¬ (32 : Int) ≤ (S.length : Int) := by omega
 have HG := As.mk (And.intro hg (And.intro hi1 hi2))
 clear hg hi1 hi2 hok
 go_enter Tryz.func152, Tryz.ntmps152
 go_wp2
 go_quiet (fail)
 go_wp2
 go_quiet (fail)
 go_wp2_with (go_at_call 172; refine (HX.out _).mono ?_; rintro e w1 ⟨rfl, hb1⟩; have HB := As.mk (bt_ (pw_below_drewN (below_alloc (Below.refl _ _) _) _) hb1); have hx0 := pw_cell_below hb1 (a := ⟨w.heap.size, 0, none⟩) (v := .int .i64 x.f0) (by go_simp); have hx1 := pw_cell_below hb1 (a := ⟨w.heap.size, 1, none⟩) (v := .string x.f1) (by go_simp); have c0' := pw_cell_below HB.out c0; have c1' := pw_cell_below HB.out c1; have c2' := pw_cell_below HB.out c2; clear hb1)
 have hpx : p ≠ bi := HH.out.raw.npi
 have hpt : p ≠ bt := HH.out.raw.npt
 have hwi : w.heap.size ≠ bi := fun e => by have := HH.out.raw.ids.lt; omega
 have hwt : w.heap.size ≠ bt := fun e => by have := HH.out.raw.texts.lt; omega
 refine start_ (n := 28) (S := fun w' => w'.cell? ⟨p, 0, none⟩ = some (.slice A S.length c) ∧ w'.cell? ⟨p, 1, none⟩ = some (.map (some bi)) ∧ w'.cell? ⟨p, 2, none⟩ = some (.map (some bt)) ∧ w'.cell? ⟨w.heap.size, 0, none⟩ = some (.int .i64 x.f0) ∧ w'.cell? ⟨w.heap.size, 1, none⟩ = some (.string x.f1)) (ds := []) #[false, false, false, false, false, false, false, false, false, false, false, false, false, false, false, false, false, false, false, false, false, false, false, false, false, false, false, false] (by kernel_rfl) rfl rfl (⟨c0', c1', c2', hx0, hx1⟩) (fun hHeld => ?_)
 have HO2 := As.mk (HH.out.below (below_drew1 HB.out)); have HB2 := As.mk (below_drew1 HB.out); clear HB c0' c1' c2' hx0 hx1; generalize w1.drew = w2 at HO2 HB2 hHeld ⊢; obtain ⟨n1, w3, r1, b1, k1⟩ := entry_run (P := Tryz.prog) (E := encInt) Tryz.underlying188 Tryz.underlying3 HO2.out.raw.ids x.f0 (by rw [get_idl, HG.out.2.1]; rfl) (z := .int .i64 0) (by kernel_rfl); obtain ⟨w4, r2, b2, m1⟩ := k1 (.int .i64 S.length); clear k1; obtain ⟨n2, w5, r3, b3, k3⟩ := entry_run (P := Tryz.prog) (E := encStr) Tryz.underlying189 Tryz.underlying9 ((HO2.out.raw.texts.of_block ((b1.trans b2).block bt (Ne.symm HO2.out.raw.nit)))) x.f1 (by rw [get_txl, HG.out.2.2]; rfl) (z := .int .i64 0) (by kernel_rfl); obtain ⟨w6, r4, b4, m2⟩ := k3 (.int .i64 S.length); clear k3; simp only [encInt, encStr] at r1 r2 r3 r4
 refine pI 0 (some 45) (bs 28 1) ?_
 refine pI 1 (some 46) (bs 28 3) ?_
 refine pI 2 (some 47) (bs 28 7) ?_
 refine pI 4 (some 49) (bs 28 23) ?_
 refine pI 6 (some 51) (bs 28 87) ?_
 refine pI 7 (some 52) (bs 28 215) ?_
 refine pI 8 (some 53) (bs 28 471) ?_
 refine pI 10 (some 55) (bs 28 1495) ?_
 refine pI 12 (some 57) (bs 28 5591) ?_
 refine pI 13 (some 58) (bs 28 13783) ?_
 refine pI 14 (some 59) (bs 28 30167) ?_
 refine pI 17 (some 62) (bs 28 161239) ?_
 refine pI 18 (some 63) (bs 28 423383) ?_
 refine pI 19 (some 64) (bs 28 947671) ?_
 refine tI 3 (some 48) (bs 28 947679) rfl (by intro w' hS'; obtain ⟨s0, s1, s2, s3, s4⟩ := hS'; go_simp; with_reducible rfl) hHeld ?_
 refine tI 5 (some 50) (bs 28 947711) rfl (by intro w' hS'; obtain ⟨s0, s1, s2, s3, s4⟩ := hS'; go_simp; with_reducible rfl) hHeld ?_
 refine tI 9 (some 54) (bs 28 948223) rfl (by intro w' hS'; obtain ⟨s0, s1, s2, s3, s4⟩ := hS'; go_simp; with_reducible rfl) hHeld ?_
 refine tI 11 (some 56) (bs 28 950271) rfl (by intro w' hS'; obtain ⟨s0, s1, s2, s3, s4⟩ := hS'; go_simp; with_reducible rfl) hHeld ?_
 refine tI 15 (some 60) (bs 28 983039) rfl (by intro w' hS'; obtain ⟨s0, s1, s2, s3, s4⟩ := hS'; go_simp; with_reducible rfl) hHeld ?_
 refine pI 16 (some 61) (bs 28 1048575) ?_
 refine tI 20 (some 65) (bs 28 2097151) rfl (by intro w' hS'; obtain ⟨s0, s1, s2, s3, s4⟩ := hS'; go_simp; with_reducible rfl) hHeld ?_
 refine pI 21 (some 66) (bs 28 4194303) ?_
 refine one_ (i := 22) (N := some 67) (bs 28 8388607) rfl rfl (by kernel_rfl) (by decide) (fun K hK => ?_)
 refine value_ (w1 := w3) (v := .tuple #[.int .i64 0, .int .i64 n1]) (by rfl) rfl ?_ ?_
 ·first | (go_simp; done) | (go_simp; rfl)
 refine hK.out _ _ (by simpa only [b1.cell (a := ⟨p, 0, none⟩) hpx, b1.cell (a := ⟨p, 1, none⟩) hpx, b1.cell (a := ⟨p, 2, none⟩) hpx, b1.cell (a := ⟨w.heap.size, 0, none⟩) hwi, b1.cell (a := ⟨w.heap.size, 1, none⟩) hwi] using hHeld) (fun hHeld => ?_)
 clear hK K
 refine nI ?_
 refine pI 23 (some 68) (bs 28 16777215) ?_
 refine one_ (i := 24) (N := none) (bs 28 33554431) rfl rfl (by kernel_rfl) (by decide) (fun K hK => ?_)
 refine skip_ (w1 := w4) (by rfl) rfl ?_ ?_
 ·first | (go_simp; done) | (go_simp; rfl)
 refine hK.out _ _ (by simpa only [b2.cell (a := ⟨p, 0, none⟩) hpx, b2.cell (a := ⟨p, 1, none⟩) hpx, b2.cell (a := ⟨p, 2, none⟩) hpx, b2.cell (a := ⟨w.heap.size, 0, none⟩) hwi, b2.cell (a := ⟨w.heap.size, 1, none⟩) hwi] using hHeld) (fun hHeld => ?_)
 clear hK K
 refine one_ (i := 25) (N := some 69) (bs 28 67108863) rfl rfl (by kernel_rfl) (by decide) (fun K hK => ?_)
 refine value_ (w1 := w5) (v := .tuple #[.int .i64 0, .int .i64 n2]) (by rfl) rfl ?_ ?_
 ·first | (go_simp; done) | (go_simp; rfl)
 refine hK.out _ _ (by simpa only [b3.cell (a := ⟨p, 0, none⟩) hpt, b3.cell (a := ⟨p, 1, none⟩) hpt, b3.cell (a := ⟨p, 2, none⟩) hpt, b3.cell (a := ⟨w.heap.size, 0, none⟩) hwt, b3.cell (a := ⟨w.heap.size, 1, none⟩) hwt] using hHeld) (fun hHeld => ?_)
 clear hK K
 refine nI ?_
 refine pI 26 (some 70) (bs 28 134217727) ?_
 refine one_ (i := 27) (N := none) (bs 28 268435455) rfl rfl (by kernel_rfl) (by decide) (fun K hK => ?_)
 refine skip_ (w1 := w6) (by rfl) rfl ?_ ?_
 ·first | (go_simp; done) | (go_simp; rfl)
 refine hK.out _ _ (by simpa only [b4.cell (a := ⟨p, 0, none⟩) hpt, b4.cell (a := ⟨p, 1, none⟩) hpt, b4.cell (a := ⟨p, 2, none⟩) hpt, b4.cell (a := ⟨w.heap.size, 0, none⟩) hwt, b4.cell (a := ⟨w.heap.size, 1, none⟩) hwt] using hHeld) (fun hHeld => ?_)
 clear hK K
 refine done_ (by kernel_rfl) ?_
 have hx0 := hHeld.2.2.2.1
 have hx1 := hHeld.2.2.2.2
 have HW := As.mk ((HO2.out.raw.putI (b1.trans b2) (I' := S ++ [x]) (by rw [idl_snoc]; exact m1)).putT (b3.trans b4) (T' := S ++ [x]) (by rw [txl_snoc]; exact m2))
 have HB := As.mk ((((HB2.out.mono hbase).trans ((b1.trans b2).below HO2.out.raw.li)).trans ((b3.trans b4).below HO2.out.raw.lt)))
 rename_i hH1 hH2 hH3 hH4
 clear r1 r2 r3 r4 b1 b2 b3 b4 m1 m2 HO2 HB2 hHeld hH1 hH2 hH3 hH4 hL1 hL2 HX hpx hpt hwi hwt c0 c1 c2
 go_wp2
 have hgood : 1 ≤ x.f1.size := by have := HG.out.1; unfold goodB at this; have := of_decide_eq_true this; omega
 have e1 : 0 < x.f1.size := by omega
 have e2 : (0 : Int) < x.f1.size := by omega
 have hb256 : (x.f1[0]).toNat < 256 := (x.f1[0]).toNat_lt
 have HBT := As.mk (bt0 x.f1 e1)
 generalize hcb : (x.f1[0]).toNat = cb at *
 have hb256i : (cb : Int) < 256 := by omega
 have hcF := HW.out.first cb hb256
 obtain ⟨cs6, hcs6⟩ := HW.out.blk
 have hfz := frozen_of hcs6 (3 + cb)
 clear hcs6
 refine start_ (n := 8) (S := fun w' => w'.cell? ⟨w.heap.size, 1, none⟩ = some (.string x.f1)) (ds := [7]) #[false, false, false, false, false, false, false, false] (by kernel_rfl) rfl rfl (hx1) (fun hHeld => ?_)
 have HW7 := As.mk (HW.out.below (below_drew1 (Below.refl _ _))); have HB7 := As.mk (below_drew1 HB.out); have hx07 : w6.drew.cell? ⟨w.heap.size, 0, none⟩ = some (.int .i64 x.f0) := hx0; have hcF7 : w6.drew.cell? ⟨p, 3 + cb, none⟩ = some (.bool (firstOf S cb)) := hcF; have hfz7 : w6.drew.frozen? ⟨p, 3 + cb, none⟩ = false := hfz; clear HW HB hx0 hx1 hcF hfz; generalize w6.drew = w7 at HW7 HB7 hx07 hcF7 hfz7 hHeld ⊢
 refine pI 0 (some 71) (bs 8 1) ?_
 refine pI 1 (some 72) (bs 8 3) ?_
 refine pI 4 (some 75) (bs 8 19) ?_
 refine pI 5 (some 76) (bs 8 51) ?_
 refine tI 2 (some 73) (bs 8 55) rfl (by intro w' hS'; have s0 := hS'; go_simp; with_reducible rfl) hHeld ?_
 refine pI 3 (some 74) (bs 8 63) ?_
 refine pI 6 (some 77) (bs 8 127) ?_
 refine last_ (i := 7) (N := none) (bs 8 255) rfl rfl (by kernel_rfl) (by decide) (fun K hK => ?_)
 refine skip_ (w1 := w7.setCell ⟨p, 3 + cb, none⟩ (.bool true)) (by rfl) rfl ?_ ?_
 ·first | (go_simp; done) | (go_simp; rfl)
 refine hK.out _ _ ?_
 clear hK K
 refine done_ (by kernel_rfl) ?_
 have HW := As.mk (HW7.out.store (F' := fun i => firstOf (S ++ [x]) i) (M' := mostOf S) (3 + cb) (.bool true) (by omega) (by omega) HW7.out.rows (by rw [if_neg (by omega)]) (fun i hi => by
  rw [first_snoc, HBT.out]
  by_cases e : cb = i
  ·subst e; rw [if_pos rfl]; simp
  ·rw [if_neg (by omega)]; simp; omega) (by rw [if_neg (by omega)]))
 have HB := As.mk (HB7.out.setCell (p := ⟨p, 3 + cb, none⟩) HW7.out.lp (.bool true))
 have hwp : w.heap.size ≠ p := fun e => by omega
 have hx0 : (w7.setCell ⟨p, 3 + cb, none⟩ (.bool true)).cell? ⟨w.heap.size, 0, none⟩ = some (.int .i64 x.f0) := by rw [World.cell?_setCell_far _ _ _ _ (Ne.symm hwp)]; exact hx07
 have hx1 : (w7.setCell ⟨p, 3 + cb, none⟩ (.bool true)).cell? ⟨w.heap.size, 1, none⟩ = some (.string x.f1) := by rw [World.cell?_setCell_far _ _ _ _ (Ne.symm hwp)]; exact hHeld
 clear HW7 HB7 hx07 hHeld hcF7 hfz7
 generalize w7.setCell ⟨p, 3 + cb, none⟩ (.bool true) = w8 at HW HB hx0 hx1 ⊢
 go_wp2
 have hm0 := HW.out.most
 obtain ⟨cs8, hcs8⟩ := HW.out.blk
 have hfz := frozen_of hcs8 259
 clear hcs8
 have hmx : mxI (mostOf S : Int) (x.f1.size : Int) = ((mostOf (S ++ [x]) : Nat) : Int) := by rw [most_snoc]; unfold mxI; split <;> omega
 refine start_ (n := 12) (S := fun w' => w'.cell? ⟨w.heap.size, 1, none⟩ = some (.string x.f1) ∧ w'.cell? ⟨p, 259, none⟩ = some (.int .i64 (mostOf S : Int))) (ds := [11]) #[false, false, false, false, false, false, false, false, false, false, false, false] (by kernel_rfl) rfl rfl (⟨hx1, hm0⟩) (fun hHeld => ?_)
 have HW7 := As.mk (HW.out.below (below_drew1 (Below.refl _ _))); have HB7 := As.mk (below_drew1 HB.out); have hx07 : w8.drew.cell? ⟨w.heap.size, 0, none⟩ = some (.int .i64 x.f0) := hx0; have hfz7 : w8.drew.frozen? ⟨p, 259, none⟩ = false := hfz; clear HW HB hx0 hx1 hm0 hfz; generalize w8.drew = w9 at HW7 HB7 hx07 hfz7 hHeld ⊢
 refine pI 0 (some 78) (bs 12 1) ?_
 refine pI 1 (some 79) (bs 12 3) ?_
 refine pI 2 (some 80) (bs 12 7) ?_
 refine pI 3 (some 81) (bs 12 15) ?_
 refine pI 5 (some 83) (bs 12 47) ?_
 refine tI 4 (some 82) (bs 12 63) rfl (by intro w' hS'; obtain ⟨s0, s1⟩ := hS'; go_simp; with_reducible rfl) hHeld ?_
 refine tI 6 (some 84) (bs 12 127) rfl (by intro w' hS'; obtain ⟨s0, s1⟩ := hS'; go_simp; with_reducible rfl) hHeld ?_
 refine pI 7 (some 85) (bs 12 255) ?_
 refine pI 8 (some 86) (bs 12 511) ?_
 refine pI 9 (some 87) (bs 12 1023) ?_
 refine pI 10 (some 88) (bs 12 2047) ?_
 refine last_ (i := 11) (N := none) (bs 12 4095) rfl rfl (by kernel_rfl) (by decide) (fun K hK => ?_)
 obtain ⟨hh1, hh2⟩ := hHeld
 refine skip_ (w1 := w9.setCell ⟨p, 259, none⟩ (.int .i64 (mostOf (S ++ [x]) : Int))) (by rfl) rfl ?_ ?_
 ·first | (go_simp; done) | (go_simp; rfl)
 refine hK.out _ _ ?_
 clear hK K
 refine done_ (by kernel_rfl) ?_
 have HW := As.mk (HW7.out.store (F' := firstOf (S ++ [x])) (M' := mostOf (S ++ [x])) 259 (.int .i64 (mostOf (S ++ [x]) : Int)) (by omega) (by omega) HW7.out.rows (by rw [if_neg (by omega)]) (fun i hi => by rw [if_neg (by omega)]) (by rw [if_pos rfl]))
 have HB := As.mk (HB7.out.setCell (p := ⟨p, 259, none⟩) HW7.out.lp (.int .i64 (mostOf (S ++ [x]) : Int)))
 have hx0 : (w9.setCell ⟨p, 259, none⟩ (.int .i64 (mostOf (S ++ [x]) : Int))).cell? ⟨w.heap.size, 0, none⟩ = some (.int .i64 x.f0) := by rw [World.cell?_setCell_far _ _ _ _ (Ne.symm hwp)]; exact hx07
 have hx1 : (w9.setCell ⟨p, 259, none⟩ (.int .i64 (mostOf (S ++ [x]) : Int))).cell? ⟨w.heap.size, 1, none⟩ = some (.string x.f1) := by rw [World.cell?_setCell_far _ _ _ _ (Ne.symm hwp)]; exact hh1
 clear HW7 HB7 hx07 hh1 hh2 hfz7 hmx
 generalize w9.setCell ⟨p, 259, none⟩ (.int .i64 (mostOf (S ++ [x]) : Int)) = w10 at HW HB hx0 hx1 ⊢
 go_wp2
 have hl0 := HW.out.c0
 have HA := As.mk (R_away HH.out.raw.rows (Nat.le_refl _))
 refine start_ (n := 11) (S := fun w' => w'.cell? ⟨p, 0, none⟩ = some (.slice A S.length c) ∧ w'.cell? ⟨w.heap.size, 0, none⟩ = some (.int .i64 x.f0) ∧ w'.cell? ⟨w.heap.size, 1, none⟩ = some (.string x.f1)) (ds := [10]) #[false, false, false, false, false, false, false, false, false, false, false] (by kernel_rfl) rfl rfl (⟨hl0, hx0, hx1⟩) (fun hHeld => ?_)
 have HW7 := As.mk (HW.out.below (below_drew1 (Below.refl _ _))); have HB7 := As.mk (below_drew1 HB.out); clear HW HB hx0 hx1 hl0; generalize w10.drew = w11 at HW7 HB7 hHeld ⊢; have HH11 := As.mk hHeld
 refine pI 0 (some 89) (bs 11 1) ?_
 refine pI 1 (some 90) (bs 11 3) ?_
 refine pI 2 (some 91) (bs 11 7) ?_
 refine pI 3 (some 92) (bs 11 15) ?_
 refine tI 4 (some 93) (bs 11 31) rfl (by intro w' hS'; obtain ⟨s0, s1, s2⟩ := hS'; go_simp; with_reducible rfl) hHeld ?_
 refine tI 5 (some 94) (bs 11 63) rfl (by intro w' hS'; obtain ⟨s0, s1, s2⟩ := hS'; go_simp; with_reducible rfl) hHeld ?_
 refine one_ (i := 6) (N := some 95) (bs 11 127) rfl rfl (by kernel_rfl) (by decide) (fun K hK => ?_)
 refine value_ (w1 := w11.alloc (.cells #[.int .i64 x.f0, .string x.f1] 93)) (v := .slice (some ⟨w11.heap.size, 0, none⟩) 1 1) (by rfl) rfl ?_ ?_
 ·first | (go_simp; done) | (go_simp; rfl)
 refine hK.out _ _ (⟨pw_cell_below (below_alloc (Below.refl _ _) _) hHeld.1, pw_cell_below (below_alloc (Below.refl _ _) _) hHeld.2.1, pw_cell_below (below_alloc (Below.refl _ _) _) hHeld.2.2⟩) (fun hHeld => ?_)
 clear hK K
 refine nI ?_
 refine one_ (i := 7) (N := some 96) (bs 11 255) rfl rfl (by kernel_rfl) (by decide) (fun K hK => ?_)
 refine Kd.R_append_step kSp (w0 := w) base (by rfl) (.tmp 93) (.tmp 95) 25 93 (.agg #[.int .i64 0, .string ⟨#[]⟩]) 24 rfl Tryz.underlying25 info_sp rfl (by decide) (by omega) (.slice A S.length c) S x [.int .i64 x.f0, .string x.f1] (fun _ => True) (fun _ => False) rfl ?aX ?aP (fun _ hk => hk.elim) (fun _ _ => trivial) HW7.out.rows HB7.out (Nat.le_trans hbase HB7.out.size) (by omega) ?_
 (case aX => exact rfl)
 (case aP => exact k93_mkM _ _ _ x)
 intro v1 w12 ho hb hg hat
 obtain ⟨A1, c1, rfl⟩ := Kd.R_slice ho
 have hc12 := (HW7.out.grown hg).1 0 _ HW7.out.c0
 obtain ⟨cs12, hcs12⟩ := (HW7.out.grown hg).2.1
 have hfz := frozen_of hcs12 0
 have HG12 := As.mk (And.intro (HW7.out.close hg ho) hb)
 refine hK.out _ _ ⟨hc12, cell_grown hg HH11.out.2.1 HA.out, cell_grown hg HH11.out.2.2 HA.out⟩ (fun hHeld => ?_)
 clear hK K
 refine nI ?_
 refine pI 8 (some 97) (bs 11 511) ?_
 refine pI 9 (some 98) (bs 11 1023) ?_
 refine last_ (i := 10) (N := none) (bs 11 2047) rfl rfl (by kernel_rfl) (by decide) (fun K hK => ?_)
 refine skip_ (w1 := w12.setCell ⟨p, 0, none⟩ (.slice A1 (S ++ [x]).length c1)) (by rfl) rfl ?_ ?_
 ·first | (go_simp; done) | (go_simp; rfl)
 refine hK.out _ _ ?_
 clear hK K
 refine done_ (by kernel_rfl) ?_
 go_wp2
 go_ret
 have h12 := HG12.out
 rw [show (S ++ [x]).length = S.length + 1 from by simp] at h12
 exact ⟨rfl, _, HH.out.snoc HG.out.1 hf HG.out.2.1 HG.out.2.2 h12.1, h12.2.setCell (p := ⟨p, 0, none⟩) HH.out.raw.lp _⟩
end Go.Proofs.YtkffhgiiejbnaaaGreat.Mk
