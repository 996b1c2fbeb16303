import Derived.Test.YtkffhgiiejbnaaaGreatZRefG
import Derived.Test.YtkffhgiiejbnaaaGreatZSpecA
set_option maxRecDepth 100000
set_option maxHeartbeats 2000000
set_option linter.unusedVariables false
set_option linter.unusedSimpArgs false
namespace Go.Proofs.YtkffhgiiejbnaaaGreat.Rt
open Go.RowKit YtkffhgiiejbnaaaGreatW.PrintWords YtkffhgiiejbnaaaGreatW.PrintLast YtkffhgiiejbnaaaGreatW.PrintMore Rf Aid Mp Hp Tk
theorem rnew_ok (A : Option Addr) (c : Nat) (l : List S91) (w : World) (hr : Kd.C k91 w A l.length l) (hl : l.length ≤ 1000000) {R : List Ent} (hok : newT (byteL 256) (mp l) 0 = (R, l.length, 0)) :
  Calls Tryz.prog 162 #[.slice A l.length c] w fun e w' => ∃ A2 B2 c2 d2, e = .returned (.tuple #[rV A2 B2 c2 d2 R, .int .i64 (l.length : Int), .int .i64 0]) ∧ ROwn w' w.heap.size A2 B2 c2 d2 R ∧ Below w.heap.size w w' := by
 have HR := As.mk hr
 have HF0 := As.mk (show newT (byteL 256) (mp (l.drop 0)) 0 = (R, l.length, 0) from hok)
 clear hr hok
 have hz : ∀ w, (zeroValue 34).run Tryz.prog w = .ok (.agg #[.slice none 0 0, .slice none 0 0]) w := fun w => by kernel_rfl
 go_enter Tryz.func162, Tryz.ntmps162
 go_wp2_with (go_at_call 124; refine (begin_ref _).mono ?_; rintro e w1 ⟨A1, B1, c1, d1, rfl, ho, hb⟩; have HO1 := As.mk ho; have HB1 := As.mk (bt_ (below_alloc (Below.refl _ _) _) hb); have HY1 := As.mk ((hb.block _ (blk_lt (Go.MapKept.heap_alloc w _).1)).trans (Go.MapKept.heap_alloc w (.cells #[.slice none 0 0, .slice none 0 0] 34)).1); clear ho hb; unfold rV)
 have HO2 := As.mk ((HO1.out.below (below_alloc (Below.refl _ _) (.cells #[.slice A1 (bL (byteL 256)).length c1, .slice B1 (mL (byteL 256)).length d1] 34))).lower (by simp : w.heap.size ≤ _))
 have HB2 := As.mk (below_alloc HB1.out (.cells #[.slice A1 (bL (byteL 256)).length c1, .slice B1 (mL (byteL 256)).length d1] 34))
 have HK1 := As.mk (Go.MapKept.heap_alloc w1 (.cells #[.slice A1 (bL (byteL 256)).length c1, .slice B1 (mL (byteL 256)).length d1] 34)).1
 have HLO := As.mk HB1.out.size
 have HNE := As.mk (Nat.ne_of_lt (blk_lt HY1.out))
 have HY2 := As.mk (((below_alloc (Below.refl w1.heap.size w1) (.cells #[.slice A1 (bL (byteL 256)).length c1, .slice B1 (mL (byteL 256)).length d1] 34)).block _ (blk_lt HY1.out)).trans HY1.out)
 clear HO1 HY1
 go_loopg [6] l.length (fun k v6 w' => ∃ (i : Nat) (E : List Ent) (A2 B2 : Option Addr) (c2 d2 : Nat), v6 = .int .i64 i ∧ i ≤ l.length ∧ As (w'.heap[w1.heap.size]? = some (.cells #[.slice A2 (bL E).length c2, .slice B2 (mL E).length d2] 34 (0, 0))) ∧ As (ROwn w' w.heap.size A2 B2 c2 d2 E) ∧ As (w'.heap[w.heap.size]? = some (.cells #[.slice none 0 0, .slice none 0 0] 34 (0, 0))) ∧ As (Tk.Good E) ∧ As (newT E (mp (l.drop i)) i = (R, l.length, 0)) ∧ As (l.length - i ≤ k) ∧ As (Below w.heap.size w w'))
 case atStart => exact ⟨0, byteL 256, A1, B1, c1, d1, rfl, by omega, HK1, HO2, HY2, ⟨Good.begin_⟩, HF0, ⟨by omega⟩, HB2⟩
 case round =>
  clear HF0 HO2 HB2 HK1 HY2
  obtain ⟨i, E, A2, B2, c2, d2, rfl, hi, HK, HO, HY, HG, HF, HM, HB⟩ := hrel
  by_cases hlt : i < l.length
  ·obtain ⟨k1, rfl⟩ : ∃ k1, gk = k1 + 1 := ⟨gk - 1, by have := HM.out; omega⟩
   have hltI : (i : Int) < l.length := by omega
   have hF' := (newT_at hlt).symm.trans HF.out
   obtain ⟨ad, rfl, x0, x1⟩ := at_T91 (Kd.C_below HR.out HB.out) (i : Int) (by omega) (by omega)
   rw [Int.toNat_natCast] at x0 x1
   generalize rd_T91 l i = x at *
   have hc0 : addC E x.f0 x.f1 = 0 := by
    by_cases hc0 : addC E x.f0 x.f1 = 0
    ·exact hc0
    ·rw [if_neg hc0] at hF'
     exact congrArg (fun q : List Ent × Nat × Int => q.2.2) hF'
   rw [if_pos hc0] at hF'
   have HF' := As.mk hF'
   have HA := As.mk (fun (W : World) (h : Below wr.heap.size wr W) => radd_any (HO.out.below h) HG.out (Nat.le_trans HB.out.size h.size) x.f0 x.f1)
   have hm : more E x.f0 x.f1 = E ++ [newE E x.f0 x.f1] := by unfold more; rw [if_pos hc0]
   rw [hc0, hm] at HA
   have HG2 := As.mk (hm ▸ more_good HG.out x.f0 x.f1 : Tk.Good (E ++ [newE E x.f0 x.f1]))
   clear hF' hc0 hm HF
   generalize E ++ [newE E x.f0 x.f1] = E2 at HF' HA HG2
   unfold rV at HA
   have d0 := cell_of (i := 0) HK.out rfl
   have d1 := cell_of (i := 1) HK.out rfl
   go_wp2_with fail
   refine start_ (n := 12) (S := fun w' => Below wr.heap.size wr w') (ds := []) #[false, false, false, false, false, false, false, false, false, false, false, false] (by kernel_rfl) rfl rfl (below_drew1 (Below.refl _ _)) (fun hHeld => ?_)
   refine pI 1 (some 18) (bs 12 2) ?_
   refine pI 2 (some 19) (bs 12 6) ?_
   refine pI 3 (some 20) (bs 12 14) ?_
   refine tI 0 (some 17) (bs 12 15) rfl (by intro w' hS'; have s0 := hS'; have d0' := pw_cell_below hS' d0; have d1' := pw_cell_below hS' d1; go_simp; with_reducible rfl) hHeld ?_
   refine tI 4 (some 21) (bs 12 31) rfl (by intro w' hS'; have s0 := hS'; have x0' := pw_cell_below hS' x0; have x1' := pw_cell_below hS' x1; go_simp; with_reducible rfl) hHeld ?_
   have HS5 := As.mk hHeld
   clear hHeld
   generalize wr.drew = w5 at HS5 ⊢
   refine join_ 2 #[true, true, true, true, true, true, true, true, true, true, false, false] (fun (q : Option Addr × Option Addr × Nat × Nat × Nat) => [(22, .tuple #[.agg #[.slice q.1 (bL E2).length q.2.2.1, .slice q.2.1 (mL E2).length q.2.2.2.1], .int .i64 0]), (16, .tuple #[.agg #[.slice q.1 (bL E2).length q.2.2.1, .slice q.2.1 (mL E2).length q.2.2.2.1], .int .i64 0]), (23, .agg #[.slice q.1 (bL E2).length q.2.2.1, .slice q.2.1 (mL E2).length q.2.2.2.1]), (24, .int .i64 0), (7, .pointer (some ⟨q.2.2.2.2, 0, none⟩))])
    (fun q W => Below wr.heap.size wr W ∧ ROwn W w.heap.size q.1 q.2.1 q.2.2.1 q.2.2.2.1 E2 ∧ W.heap[q.2.2.2.2]? = some (.cells #[.slice none 0 0, .slice none 0 0] 34 (0, 0)) ∧ wr.heap.size ≤ q.2.2.2.2) ?_ ?_
   rotate_left
   ·intro hcont
    refine two_ (i := 5) (j := 9) (Ni := some 22) (Nj := some 7) #[true, true, true, true, true, true, false, false, false, false, false, false] #[true, true, true, true, true, false, false, false, false, true, false, false] rfl rfl rfl rfl (by kernel_rfl) (by decide) (by decide) (fun K hK => ?_) (fun K hK => ?_)
    ·refine goes_ Tryz.func125 (by kernel_rfl) rfl #[.agg #[.slice A2 (bL E).length c2, .slice B2 (mL E).length d2], .agg #[.int .i64 x.f0, .int .i64 x.f1]] (by rfl) rfl rfl (by simp [Act.eval]) ?_
     refine (HA.out _ HS5.out).mono ?_
     rintro e w6 ⟨A4, B4, c4, d4, rfl, ho, hb⟩
     refine ⟨_, rfl, ?_⟩
     have hSw6 := bt_ HS5.out hb
     refine hK.out _ _ hSw6 (fun _ => ?_)
     clear hK K
     refine nI ?_
     refine pI 6 (some 16) (bs 12 127) ?_
     refine pI 7 (some 23) (bs 12 255) ?_
     refine pI 8 (some 24) (bs 12 511) ?_
     refine one_ (i := 9) (N := some 7) (bs 12 1023) rfl rfl (by kernel_rfl) (by decide) (fun K hK => ?_)
     refine value_ (w1 := w6.alloc (.cells #[.slice none 0 0, .slice none 0 0] 34)) (v := .pointer (some ⟨w6.heap.size, 0, none⟩)) (by rfl) rfl ?_ ?_
     ·first | (go_simp; done) | (go_simp; rfl)
     have hSw7 := below_alloc hSw6 (.cells #[.slice none 0 0, .slice none 0 0] 34)
     have hGw7 := (Go.MapKept.heap_alloc w6 (.cells #[.slice none 0 0, .slice none 0 0] 34)).1
     have hq := below_alloc (Below.refl w6.heap.size w6) (.cells #[.slice none 0 0, .slice none 0 0] 34)
     refine hK.out _ _ hSw7 (fun _ => ?_)
     clear hK K
     refine nI ?_
     exact norm_ (by first | (simp only [Act.put, putAll, List.setIfInBounds_toArray, List.set_cons_zero, List.set_cons_succ]; done) | (simp only [Act.put, putAll, List.setIfInBounds_toArray, List.set_cons_zero, List.set_cons_succ]; rfl)) (hcont ⟨A4, B4, c4, d4, w6.heap.size⟩ _ ⟨hSw7, ho.below hq, hGw7, hSw6.size⟩)
    ·refine value_ (w1 := w5.alloc (.cells #[.slice none 0 0, .slice none 0 0] 34)) (v := .pointer (some ⟨w5.heap.size, 0, none⟩)) (by rfl) rfl ?_ ?_
     ·first | (go_simp; done) | (go_simp; rfl)
     have hSw6 := below_alloc HS5.out (.cells #[.slice none 0 0, .slice none 0 0] 34)
     have hGw6 := (Go.MapKept.heap_alloc w5 (.cells #[.slice none 0 0, .slice none 0 0] 34)).1
     refine hK.out _ _ hSw6 (fun _ => ?_)
     clear hK K
     refine nI ?_
     refine one_ (i := 5) (N := some 22) (bs 12 575) rfl rfl (by kernel_rfl) (by decide) (fun K hK => ?_)
     refine goes_ Tryz.func125 (by kernel_rfl) rfl #[.agg #[.slice A2 (bL E).length c2, .slice B2 (mL E).length d2], .agg #[.int .i64 x.f0, .int .i64 x.f1]] (by rfl) rfl rfl (by simp [Act.eval]) ?_
     refine (HA.out _ hSw6).mono ?_
     rintro e w7 ⟨A4, B4, c4, d4, rfl, ho, hb⟩
     refine ⟨_, rfl, ?_⟩
     have hSw7 := bt_ hSw6 hb
     have hG7 := (hb.block _ (blk_lt hGw6)).trans hGw6
     refine hK.out _ _ hSw7 (fun _ => ?_)
     clear hK K
     refine nI ?_
     refine pI 6 (some 16) (bs 12 639) ?_
     refine pI 7 (some 23) (bs 12 767) ?_
     refine pI 8 (some 24) (bs 12 1023) ?_
     exact norm_ (by first | (simp only [Act.put, putAll, List.setIfInBounds_toArray, List.set_cons_zero, List.set_cons_succ]; done) | (simp only [Act.put, putAll, List.setIfInBounds_toArray, List.set_cons_zero, List.set_cons_succ]; rfl)) (hcont ⟨A4, B4, c4, d4, w5.heap.size⟩ _ ⟨hSw7, ho, hG7, HS5.out.size⟩)
   ·rintro ⟨A4, B4, c4, d4, g⟩ w8 ⟨hS8, hO8, hG8, hL8⟩
    simp only at hO8 hG8 hL8
    refine norm_ (a' := ?_) ?_ ?_
    rotate_left
    ·(simp only [Act.put, putAll, List.setIfInBounds_toArray, List.set_cons_zero, List.set_cons_succ]; rfl)
    have f0 := cell_of (i := 0) hG8 rfl
    have f1 := cell_of (i := 1) hG8 rfl
    have z0 := frozen_of hG8 0
    have z1 := frozen_of hG8 1
    refine one_ (i := 10) (N := none) (bs 12 2047) rfl rfl (by kernel_rfl) (by decide) (fun K hK => ?_)
    have hS9 := (hS8.setCell (p := ⟨g, 0, none⟩) hL8 (.slice A4 (bL E2).length c4)).setCell (p := ⟨g, 1, none⟩) hL8 (.slice B4 (mL E2).length d4)
    refine skip_ (w1 := (w8.setCell ⟨g, 0, none⟩ (.slice A4 (bL E2).length c4)).setCell ⟨g, 1, none⟩ (.slice B4 (mL E2).length d4)) (by rfl) rfl ?_ ?_
    ·first | (go_simp; done) | (go_simp; rfl)
    refine hK.out _ _ hS9 (fun _ => ?_)
    clear hK K
    refine pI 11 (some 8) (bs 12 4095) ?_
    refine done_ (by kernel_rfl) ?_
    have HS9 := As.mk hS9
    have HK9 := As.mk (((hS9.block _ (blk_lt HK.out)).trans HK.out))
    have HY9 := As.mk (((hS9.block _ (blk_lt HY.out)).trans HY.out))
    have HO9 := As.mk ((hO8.set hG8 0 (.slice A4 (bL E2).length c4)).set (blk_set hG8 0 _) 1 (.slice B4 (mL E2).length d4))
    have HG9 := As.mk (blk_set (blk_set hG8 0 (.slice A4 (bL E2).length c4)) 1 (.slice B4 (mL E2).length d4))
    have HB9 := As.mk (bt_ HB.out hS9)
    clear hS9 hS8 hO8 hG8 hL8 f0 f1 z0 z1 HK HY HO HB HA d0 d1
    generalize (w8.setCell ⟨g, 0, none⟩ (.slice A4 (bL E2).length c4)).setCell ⟨g, 1, none⟩ (.slice B4 (mL E2).length d4) = w9 at HS9 HK9 HY9 HO9 HG9 HB9 ⊢
    have d0 := cell_of (i := 0) HG9.out rfl
    have d1 := cell_of (i := 1) HG9.out rfl
    have z0 := frozen_of HK9.out 0
    have z1 := frozen_of HK9.out 1
    have f0 := cell_of (i := 0) HK9.out rfl
    have f1 := cell_of (i := 1) HK9.out rfl
    go_wp2
    go_roundg k1
    case measure => omega
    case rel => exact ⟨i + 1, E2, A4, B4, c4, d4, by go_num, by omega, ⟨blk_set (blk_set HK9.out 0 _) 1 _⟩, ⟨(HO9.out.set HK9.out 0 _).set (blk_set HK9.out 0 _) 1 _⟩, ⟨blk_far (blk_far HY9.out (p := ⟨w1.heap.size, 0, none⟩) HNE.out _) (p := ⟨w1.heap.size, 1, none⟩) HNE.out _⟩, HG2, HF', ⟨by have := HM.out; omega⟩, ⟨(HB9.out.setCell (p := ⟨w1.heap.size, 0, none⟩) HLO.out _).setCell (p := ⟨w1.heap.size, 1, none⟩) HLO.out _⟩⟩
  ·obtain rfl : i = l.length := by omega
   have hR : E = R := by
    have h := HF.out
    rw [List.drop_length] at h
    exact congrArg (fun q : List Ent × Nat × Int => q.1) h
   subst hR
   have d0 := cell_of (i := 0) HK.out rfl
   have d1 := cell_of (i := 1) HK.out rfl
   have f0 := cell_of (i := 0) HY.out rfl
   have f1 := cell_of (i := 1) HY.out rfl
   have z0 := frozen_of HY.out 0
   have z1 := frozen_of HY.out 1
   clear HF
   go_wp2
   refine bodyPost_ret (v := .tuple #[.agg #[.slice A2 (bL E).length c2, .slice B2 (mL E).length d2], .int .i64 (l.length : Int), .int .i64 0]) ?_ rfl ⟨A2, B2, c2, d2, rfl, ?_, ?_⟩
   ·simp only [results, show Tryz.f162.results = #[.cell 2 34, .tmp 3, .tmp 4] from rfl]
    first | (go_simp; done) | (go_simp; rfl)
   ·exact (HO.out.set HY.out 0 _).set (blk_set HY.out 0 _) 1 _
   ·exact (HB.out.setCell (p := ⟨w.heap.size, 0, none⟩) (Nat.le_refl _) _).setCell (p := ⟨w.heap.size, 1, none⟩) (Nat.le_refl _) _
end Go.Proofs.YtkffhgiiejbnaaaGreat.Rt
