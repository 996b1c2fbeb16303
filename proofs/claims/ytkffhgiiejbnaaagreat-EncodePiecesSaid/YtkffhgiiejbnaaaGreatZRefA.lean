import Derived.BigQuiet
import Derived.Test.YtkffhgiiejbnaaaGreatZRefT
import Derived.Test.YtkffhgiiejbnaaaGreatZ01
set_option maxRecDepth 100000
set_option maxHeartbeats 1000000
set_option linter.unusedVariables false
set_option linter.unusedSimpArgs false
namespace Go.Proofs.YtkffhgiiejbnaaaGreat.Rt
open Go.RowKit YtkffhgiiejbnaaaGreatW.PrintWords YtkffhgiiejbnaaaGreatW.PrintLast YtkffhgiiejbnaaaGreatW.PrintMore Rf Aid Mp Hp Tk
structure RAt (w : World) (A B : Option Addr) (c d : Nat) (E : List Ent) : Prop where
 b : Kd.C Kd.string w A (bL E).length (bL E)
 hb : (bL E).length ≤ c
 m : Kd.C k91 w B (mL E).length (mL E)
 hm : (mL E).length ≤ d
theorem RAt.below {w w' : World} {A B : Option Addr} {c d : Nat} {E : List Ent} (h : RAt w A B c d E) (hb : Below w.heap.size w w') : RAt w' A B c d E := ⟨Kd.C_below h.b hb, h.hb, Kd.C_below h.m hb, h.hm⟩
def rV (A B : Option Addr) (c d : Nat) (E : List Ent) : Value := .agg #[.slice A (bL E).length c, .slice B (mL E).length d]
theorem has_any {w : World} {A B : Option Addr} {c d : Nat} {E : List Ent} (h : RAt w A B c d E) (a : Int) : Calls Tryz.prog 106 #[rV A B c d E, .int .i64 a] w fun e w' => e = .returned (.bool (hasE E a)) ∧ Below w.heap.size w w' :=
 ligatureref04_Table_Has.calls A c (bL E) B d (mL E) a _ w h.b h.hb h.m h.hm (has_some E (mL E) a)
theorem find_any {w : World} {A B : Option Addr} {c d : Nat} {E : List Ent} (h : RAt w A B c d E) (hE : E.length ≤ 1000000) (s : ByteArray) : Calls Tryz.prog 160 #[rV A B c d E, .string s] w fun e w' => e = .returned (.int .i64 (fdI (idxB E s))) ∧ Below w.heap.size w w' :=
 ligatureref04_Table_Find.calls (E.length + 1) A c (bL E) B d (mL E) s _ w h.b h.hb h.m h.hm (find_some E (mL E) s hE)
def W3 (w : World) (A B : Option Addr) (c d : Nat) (E : List Ent) (a b : Int) : World := ((w.alloc (.cells #[.slice A (bL E).length c, .slice B (mL E).length d] 34)).alloc (.cells #[.int .i64 a, .int .i64 b] 91)).alloc (.cells #[.slice none 0 0, .slice none 0 0] 34)
theorem W3_0 (w : World) (A B : Option Addr) (c d : Nat) (E : List Ent) (a b : Int) : (W3 w A B c d E a b).heap[w.heap.size]? = some (.cells #[.slice A (bL E).length c, .slice B (mL E).length d] 34 (0, 0)) := (push3 w.heap _ _ _).1
theorem W3_1 (w : World) (A B : Option Addr) (c d : Nat) (E : List Ent) (a b : Int) : (W3 w A B c d E a b).heap[w.heap.size + 1]? = some (.cells #[.int .i64 a, .int .i64 b] 91 (0, 0)) := (push3 w.heap _ _ _).2.1
theorem W3_2 (w : World) (A B : Option Addr) (c d : Nat) (E : List Ent) (a b : Int) : (W3 w A B c d E a b).heap[w.heap.size + 2]? = some (.cells #[.slice none 0 0, .slice none 0 0] 34 (0, 0)) := (push3 w.heap _ _ _).2.2
theorem W3_b (w : World) (A B : Option Addr) (c d : Nat) (E : List Ent) (a b : Int) : Below w.heap.size w (W3 w A B c d E a b) := below_alloc (below_alloc (below_alloc (Below.refl w.heap.size w) _) _) _
theorem cell_of {w : World} {p t i : Nat} {cs : Array Value} {v : Value} (h : w.heap[p]? = some (.cells cs t (0, 0))) (hv : cs[i]? = some v) : w.cell? ⟨p, i, none⟩ = some v := by simp only [World.cell?, h]; exact hv
theorem radd_has {w : World} {A B : Option Addr} {c d : Nat} {E : List Ent} (h : RAt w A B c d E) (a b : Int) (hc : ¬ (hasE E a = true ∧ hasE E b = true)) :
  Calls Tryz.prog 125 #[rV A B c d E, .agg #[.int .i64 a, .int .i64 b]] w fun e w' => e = .returned (.tuple #[rV A B c d E, .int .i64 4]) ∧ Below w.heap.size w w' := by
 have HR := As.mk (h.below (W3_b w A B c d E a b))
 have HB := As.mk (W3_b w A B c d E a b)
 have d0 := cell_of (i := 0) (W3_0 w A B c d E a b) rfl
 have d1 := cell_of (i := 1) (W3_0 w A B c d E a b) rfl
 have e0 := cell_of (i := 0) (W3_1 w A B c d E a b) rfl
 have e1 := cell_of (i := 1) (W3_1 w A B c d E a b) rfl
 have f0 := cell_of (i := 0) (W3_2 w A B c d E a b) rfl
 have f1 := cell_of (i := 1) (W3_2 w A B c d E a b) rfl
 have hz : ∀ w, (zeroValue 34).run Tryz.prog w = .ok (.agg #[.slice none 0 0, .slice none 0 0]) w := fun w => by kernel_rfl
 have HA := As.mk (has_any HR.out a)
 unfold rV at HA
 have hlen : ∀ w', Below (W3 w A B c d E a b).heap.size (W3 w A B c d E a b) w' → w'.heap[w.heap.size]? = some (.cells #[.slice A (bL E).length c, .slice B (mL E).length d] 34 (0, 0)) ∧ w'.heap[w.heap.size + 1]? = some (.cells #[.int .i64 a, .int .i64 b] 91 (0, 0)) ∧ w'.heap[w.heap.size + 2]? = some (.cells #[.slice none 0 0, .slice none 0 0] 34 (0, 0)) := fun w' hb =>
  ⟨(hb.block _ (blk_lt (W3_0 w A B c d E a b))).trans (W3_0 w A B c d E a b), (hb.block _ (blk_lt (W3_1 w A B c d E a b))).trans (W3_1 w A B c d E a b), (hb.block _ (blk_lt (W3_2 w A B c d E a b))).trans (W3_2 w A B c d E a b)⟩
 have HL := As.mk hlen
 clear hlen d0 d1 e0 e1 f0 f1 h
 unfold rV
 cases ha : hasE E a with
 | false =>
  rw [ha] at HA
  clear ha hc
  go_enter Tryz.func125, Tryz.ntmps125
  go_wp2_with (go_at_call 106; refine HA.out.mono ?_; rintro e w1 ⟨rfl, hb⟩; have h3 := HL.out _ hb; have d0 := cell_of (i := 0) h3.1 rfl; have d1 := cell_of (i := 1) h3.1 rfl; have f0 := cell_of (i := 0) h3.2.2 rfl; have f1 := cell_of (i := 1) h3.2.2 rfl; have z0 := frozen_of h3.2.2 0; have z1 := frozen_of h3.2.2 1; have HB1 := As.mk (bt_ HB.out hb); clear hb h3)
  refine bodyPost_ret (v := .tuple #[.agg #[.slice A (bL E).length c, .slice B (mL E).length d], .int .i64 4]) ?_ rfl ⟨rfl, ?_⟩
  ·simp only [results, show Tryz.f125.results = #[.cell 4 34, .tmp 5] from rfl]
   first | (go_simp; done) | (go_simp; rfl)
  ·exact (HB1.out.setCell (p := ⟨w.heap.size + 2, 0, none⟩) (by show w.heap.size ≤ w.heap.size + 2; omega) _).setCell (p := ⟨w.heap.size + 2, 1, none⟩) (by show w.heap.size ≤ w.heap.size + 2; omega) _
 | true =>
  have hb0 : hasE E b = false := by
   cases hb : hasE E b with
   | false => rfl
   | true => exact absurd ⟨ha, hb⟩ hc
  have HA2 := As.mk (fun (W : World) (h : RAt W A B c d E) => has_any h b)
  unfold rV at HA2
  rw [ha] at HA
  rw [hb0] at HA2
  clear ha hb0 hc
  go_enter Tryz.func125, Tryz.ntmps125
  go_wp2_with (first
   | (go_at_call 106; refine HA.out.mono ?_; rintro e w1 ⟨rfl, hb⟩; have h3 := HL.out _ hb; have d0 := cell_of (i := 0) h3.1 rfl; have d1 := cell_of (i := 1) h3.1 rfl; have e1 := cell_of (i := 1) h3.2.1 rfl; have HQ1 := As.mk hb; clear hb h3 HA)
   | (go_at_call 106; refine (HA2.out _ (HR.out.below HQ1.out)).mono ?_; rintro e w2 ⟨rfl, hb⟩; have hq := bt_ HQ1.out hb; have h3 := HL.out _ hq; clear d0 d1 e1; have d0 := cell_of (i := 0) h3.1 rfl; have d1 := cell_of (i := 1) h3.1 rfl; have f0 := cell_of (i := 0) h3.2.2 rfl; have f1 := cell_of (i := 1) h3.2.2 rfl; have z0 := frozen_of h3.2.2 0; have z1 := frozen_of h3.2.2 1; have HB1 := As.mk (bt_ HB.out hq); clear hb h3 hq))
  refine bodyPost_ret (v := .tuple #[.agg #[.slice A (bL E).length c, .slice B (mL E).length d], .int .i64 4]) ?_ rfl ⟨rfl, ?_⟩
  ·simp only [results, show Tryz.f125.results = #[.cell 4 34, .tmp 5] from rfl]
   first | (go_simp; done) | (go_simp; rfl)
  ·exact (HB1.out.setCell (p := ⟨w.heap.size + 2, 0, none⟩) (by show w.heap.size ≤ w.heap.size + 2; omega) _).setCell (p := ⟨w.heap.size + 2, 1, none⟩) (by show w.heap.size ≤ w.heap.size + 2; omega) _
theorem radd_no {w : World} {A B : Option Addr} {c d : Nat} {E : List Ent} (h : RAt w A B c d E) (hE : Tk.Good E) (a b : Int) (ha : hasE E a = true) (hb : hasE E b = true) (hc : addC E a b ≠ 0) :
  Calls Tryz.prog 125 #[rV A B c d E, .agg #[.int .i64 a, .int .i64 b]] w fun e w' => e = .returned (.tuple #[rV A B c d E, .int .i64 (addC E a b)]) ∧ Below w.heap.size w w' := by
 have HR := As.mk (h.below (W3_b w A B c d E a b))
 have HB := As.mk (W3_b w A B c d E a b)
 have HL := As.mk (show ∀ w', Below (W3 w A B c d E a b).heap.size (W3 w A B c d E a b) w' → w'.heap[w.heap.size]? = some (.cells #[.slice A (bL E).length c, .slice B (mL E).length d] 34 (0, 0)) ∧ w'.heap[w.heap.size + 1]? = some (.cells #[.int .i64 a, .int .i64 b] 91 (0, 0)) ∧ w'.heap[w.heap.size + 2]? = some (.cells #[.slice none 0 0, .slice none 0 0] 34 (0, 0)) from fun w' hb =>
  ⟨(hb.block _ (blk_lt (W3_0 w A B c d E a b))).trans (W3_0 w A B c d E a b), (hb.block _ (blk_lt (W3_1 w A B c d E a b))).trans (W3_1 w A B c d E a b), (hb.block _ (blk_lt (W3_2 w A B c d E a b))).trans (W3_2 w A B c d E a b)⟩)
 have hz : ∀ w, (zeroValue 34).run Tryz.prog w = .ok (.agg #[.slice none 0 0, .slice none 0 0]) w := fun w => by kernel_rfl
 have HA1 := As.mk (has_any HR.out a)
 have HA2 := As.mk (fun (W : World) (h : RAt W A B c d E) => has_any h b)
 rw [ha] at HA1
 rw [hb] at HA2
 have hcode : addC E a b = if 64 < (sumB E a b).size then 3 else if 1000 ≤ E.length then 5 else if (idxB E (sumB E a b)).isSome then 10 else 0 := by unfold addC; rw [if_pos ⟨ha, hb⟩]
 unfold rV at HA1 HA2 ⊢
 go_enter Tryz.func125, Tryz.ntmps125
 go_wp2_with (first
   | (go_at_call 106; refine HA1.out.mono ?_; rintro e w1 ⟨rfl, hb⟩; have h3 := HL.out _ hb; have d0 := cell_of (i := 0) h3.1 rfl; have d1 := cell_of (i := 1) h3.1 rfl; have e1 := cell_of (i := 1) h3.2.1 rfl; have HQ1 := As.mk hb; clear hb h3 HA1)
   | (go_at_call 106; refine (HA2.out _ (HR.out.below HQ1.out)).mono ?_; rintro e w2 ⟨rfl, hb⟩; have hq := bt_ HQ1.out hb; have h3 := HL.out _ hq; clear d0 d1 e1; have d0 := cell_of (i := 0) h3.1 rfl; have d1 := cell_of (i := 1) h3.1 rfl; have e0 := cell_of (i := 0) h3.2.1 rfl; have e1 := cell_of (i := 1) h3.2.1 rfl; have HQ2 := As.mk hq; clear hb h3 hq))
 have ha1 : 0 ≤ a ∧ a < (E.length : Int) := of_decide_eq_true ha
 have hb1 : 0 ≤ b ∧ b < (E.length : Int) := of_decide_eq_true hb
 have HR2 := As.mk (HR.out.below HQ2.out)
 obtain ⟨ad, rfl, x0⟩ := Kd.at_string HR2.out.b a ha1.1 (by rw [bL_len]; exact ha1.2)
 obtain ⟨ad', e', y0⟩ := Kd.at_string HR2.out.b b hb1.1 (by rw [bL_len]; exact hb1.2)
 injection e' with e'
 subst e'
 rw [rd_byt ha] at x0
 rw [rd_byt hb] at y0
 have hs1 := byt_small' hE a
 have hs2 := byt_small' hE b
 have HM := As.mk (And.intro hcode (And.intro (show sumB E a b = byt E a ++ byt E b from rfl) hE))
 have hLa : a < ((bL E).length : Int) := by rw [bL_len]; exact ha1.2
 have hLb : b < ((bL E).length : Int) := by rw [bL_len]; exact hb1.2
 have hba := ha1.1
 have hbb := hb1.1
 have HC := As.mk hc
 clear hcode hE ha hb ha1 hb1 hc h
 generalize byt E a = s1 at x0 hs1 HM
 generalize byt E b = s2 at y0 hs2 HM
 go_quiet (fail)
 have HQ3 := As.mk (bt_ HQ2.out (pw_below_drewN (Below.refl w2.heap.size w2) nq))
 have HB3 := As.mk (bt_ HB.out HQ3.out)
 have HR3 := As.mk (HR.out.below HQ3.out)
 clear d0 d1 e0 e1 x0 y0 HQ2 HR2 HQ1 HR
 generalize w2.drewN nq = w3 at HQ3 HB3 HR3 ⊢
 have h3 := HL.out _ HQ3.out
 have d0 := cell_of (i := 0) h3.1 rfl
 have d1 := cell_of (i := 1) h3.1 rfl
 have e0 := cell_of (i := 0) h3.2.1 rfl
 have e1 := cell_of (i := 1) h3.2.1 rfl
 have f0 := cell_of (i := 0) h3.2.2 rfl
 have f1 := cell_of (i := 1) h3.2.2 rfl
 have z0 := frozen_of h3.2.2 0
 have z1 := frozen_of h3.2.2 1
 clear h3
 rw [← HM.out.2.1]
 generalize sumB E a b = s at HM ⊢
 by_cases h64 : 64 < s.size
 ·have h64i : (64 : Int) < (s.size : Int) := by omega
  have HZ := As.mk (HM.out.1.trans (if_pos h64))
  clear h64
  go_wp2
  refine bodyPost_ret (v := .tuple #[.agg #[.slice (some ad) (bL E).length c, .slice B (mL E).length d], .int .i64 3]) ?_ rfl ⟨by rw [HZ.out], ?_⟩
  ·simp only [results, show Tryz.f125.results = #[.cell 4 34, .tmp 5] from rfl]
   first | (go_simp; done) | (go_simp; rfl)
  ·exact (HB3.out.setCell (p := ⟨w.heap.size + 2, 0, none⟩) (by show w.heap.size ≤ w.heap.size + 2; omega) _).setCell (p := ⟨w.heap.size + 2, 1, none⟩) (by show w.heap.size ≤ w.heap.size + 2; omega) _
 have h64i : ¬ (64 : Int) < (s.size : Int) := by omega
 by_cases h1000 : 1000 ≤ E.length
 ·have h1000i : (1000 : Int) ≤ ((bL E).length : Int) := by rw [bL_len]; omega
  have HZ := As.mk (HM.out.1.trans ((if_neg h64).trans (if_pos h1000)))
  clear h64 h1000
  go_wp2
  refine bodyPost_ret (v := .tuple #[.agg #[.slice (some ad) (bL E).length c, .slice B (mL E).length d], .int .i64 5]) ?_ rfl ⟨by rw [HZ.out], ?_⟩
  ·simp only [results, show Tryz.f125.results = #[.cell 4 34, .tmp 5] from rfl]
   first | (go_simp; done) | (go_simp; rfl)
  ·exact (HB3.out.setCell (p := ⟨w.heap.size + 2, 0, none⟩) (by show w.heap.size ≤ w.heap.size + 2; omega) _).setCell (p := ⟨w.heap.size + 2, 1, none⟩) (by show w.heap.size ≤ w.heap.size + 2; omega) _
 have h1000i : ¬ (1000 : Int) ≤ ((bL E).length : Int) := by rw [bL_len]; omega
 cases hi : idxB E s with
 | none => exact absurd (HM.out.1.trans ((if_neg h64).trans ((if_neg h1000).trans (by rw [hi]; rfl)))) HC.out
 | some i =>
  have HZ := As.mk (show addC E a b = 10 from HM.out.1.trans ((if_neg h64).trans ((if_neg h1000).trans (by rw [hi]; rfl))))
  have HF := As.mk (find_any HR3.out (by have := HM.out.2.2.many; omega) s)
  rw [hi] at HF
  unfold rV fdI at HF
  simp only at HF
  clear h64 h1000 hi
  go_wp2_with (go_at_call 160; refine HF.out.mono ?_; rintro e w4 ⟨rfl, hb⟩; have h3 := HL.out _ (bt_ HQ3.out hb); clear d0 d1 e0 e1 f0 f1 z0 z1; have d0 := cell_of (i := 0) h3.1 rfl; have d1 := cell_of (i := 1) h3.1 rfl; have f0 := cell_of (i := 0) h3.2.2 rfl; have f1 := cell_of (i := 1) h3.2.2 rfl; have z0 := frozen_of h3.2.2 0; have z1 := frozen_of h3.2.2 1; have HB4 := As.mk (bt_ HB3.out hb); clear hb h3)
  refine bodyPost_ret (v := .tuple #[.agg #[.slice (some ad) (bL E).length c, .slice B (mL E).length d], .int .i64 10]) ?_ rfl ⟨by rw [HZ.out], ?_⟩
  ·simp only [results, show Tryz.f125.results = #[.cell 4 34, .tmp 5] from rfl]
   first | (go_simp; done) | (go_simp; rfl)
  ·exact (HB4.out.setCell (p := ⟨w.heap.size + 2, 0, none⟩) (by show w.heap.size ≤ w.heap.size + 2; omega) _).setCell (p := ⟨w.heap.size + 2, 1, none⟩) (by show w.heap.size ≤ w.heap.size + 2; omega) _
end Go.Proofs.YtkffhgiiejbnaaaGreat.Rt
