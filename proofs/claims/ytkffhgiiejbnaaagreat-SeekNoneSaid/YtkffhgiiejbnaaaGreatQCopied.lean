import Derived.Deep.RegionHeld3
import Derived.Test.YtkffhgiiejbnaaaGreatQSpecA
import Derived.Test.YtkffhgiiejbnaaaGreatQClo
set_option maxRecDepth 100000
set_option maxHeartbeats 2000000
set_option linter.unusedVariables false
set_option linter.unusedSimpArgs false
namespace Go.Proofs.YtkffhgiiejbnaaaGreat.Vc
open Go.Shelf Go.RowKit YtkffhgiiejbnaaaGreatW.PrintWords YtkffhgiiejbnaaaGreatW.PrintLast YtkffhgiiejbnaaaGreatW.PrintMore Rf Aid Mp Hp Cl
theorem cell_of {w : World} {p t i : Nat} {cs : Array Value} {v : Value} (h : w.heap[p]? = some (.cells cs t (0, 0))) (hv : cs[i]? = some v) : w.cell? ⟨p, i, none⟩ = some v := by simp only [World.cell?, h]; exact hv
theorem copied_any {A1 A3 A4 A5 : Option Addr} (c1 c3 c4 c5 : Nat) {s : Sp} {w : World} (hs : SpAt w A1 A3 A4 A5 s) (h : SpOk s) :
  Calls Tryz.prog 123 #[spV A1 A3 A4 A5 c1 c3 c4 c5 s] w fun e w' => ∃ B1 B3 B4 B5 d1 d3 d4 d5, e = .returned (spV B1 B3 B4 B5 d1 d3 d4 d5 s) ∧ Below w.heap.size w w' := by
 unfold spV
 have HS := As.mk hs
 have H := As.mk h
 clear h hs
 have hz : ∀ w, (zeroValue 95).run Tryz.prog w = .ok (.agg #[.bool false, .slice none 0 0, .slice none 0 0, .slice none 0 0, .slice none 0 0, .slice none 0 0]) w := fun w => by kernel_rfl
 go_enter Tryz.func123, Tryz.ntmps123
 go_wp2_with fail
 obtain ⟨hE, hF⟩ : ((w.alloc (.cells #[.bool false, .slice A1 s.M.length c1, .slice none 0 0, .slice A3 s.X.length c3, .slice A4 s.C.length c4, .slice A5 s.J.length c5] 95)).alloc (.cells #[.bool false, .slice none 0 0, .slice none 0 0, .slice none 0 0, .slice none 0 0, .slice none 0 0] 95)).heap[w.heap.size]? = some (.cells #[.bool false, .slice A1 s.M.length c1, .slice none 0 0, .slice A3 s.X.length c3, .slice A4 s.C.length c4, .slice A5 s.J.length c5] 95 (0, 0)) ∧ ((w.alloc (.cells #[.bool false, .slice A1 s.M.length c1, .slice none 0 0, .slice A3 s.X.length c3, .slice A4 s.C.length c4, .slice A5 s.J.length c5] 95)).alloc (.cells #[.bool false, .slice none 0 0, .slice none 0 0, .slice none 0 0, .slice none 0 0, .slice none 0 0] 95)).heap[w.heap.size + 1]? = some (.cells #[.bool false, .slice none 0 0, .slice none 0 0, .slice none 0 0, .slice none 0 0, .slice none 0 0] 95 (0, 0)) := by
  refine ⟨?_, ?_⟩
  ·show ((w.heap.push _).push _)[w.heap.size]? = _
   rw [Array.getElem?_push, if_neg (by simp), Array.getElem?_push, if_pos rfl]
  ·show ((w.heap.push _).push _)[w.heap.size + 1]? = _
   rw [Array.getElem?_push, if_pos (by simp)]
 have HEa := As.mk hE
 have HFa := As.mk hF
 have HBa := As.mk (below_alloc (below_alloc (Below.refl w.heap.size w) (.cells #[.bool false, .slice A1 s.M.length c1, .slice none 0 0, .slice A3 s.X.length c3, .slice A4 s.C.length c4, .slice A5 s.J.length c5] 95)) (.cells #[.bool false, .slice none 0 0, .slice none 0 0, .slice none 0 0, .slice none 0 0, .slice none 0 0] 95))
 clear hE hF hz
 generalize (w.alloc (.cells #[.bool false, .slice A1 s.M.length c1, .slice none 0 0, .slice A3 s.X.length c3, .slice A4 s.C.length c4, .slice A5 s.J.length c5] 95)).alloc (.cells #[.bool false, .slice none 0 0, .slice none 0 0, .slice none 0 0, .slice none 0 0, .slice none 0 0] 95) = wa at HEa HFa HBa ⊢
 refine start_ (n := 15) (S := fun w' => w'.cell? ⟨w.heap.size, 1, none⟩ = some (.slice A1 s.M.length c1) ∧ w'.cell? ⟨w.heap.size, 2, none⟩ = some (.slice none 0 0) ∧ w'.cell? ⟨w.heap.size, 3, none⟩ = some (.slice A3 s.X.length c3)) (ds := [10, 12, 14]) #[false, false, false, false, false, false, false, false, false, false, false, false, false, false, false] (by kernel_rfl) rfl rfl (⟨cell_of HEa.out rfl, cell_of HEa.out rfl, cell_of HEa.out rfl⟩) (fun hHeld => ?_)
 have HEb : As (wa.drew.heap[w.heap.size]? = _) := As.mk HEa.out; have HFb : As (wa.drew.heap[w.heap.size + 1]? = _) := As.mk HFa.out; have HBb := As.mk (below_drew1 HBa.out); clear HEa HFa HBa; generalize wa.drew = wb at HEb HFb HBb hHeld ⊢
 refine pI 0 (some 3) (bs 15 1) ?_
 refine pI 3 (some 6) (bs 15 9) ?_
 refine pI 6 (some 9) (bs 15 73) ?_
 refine tI 1 (some 4) (bs 15 75) rfl (by intro w' hS'; obtain ⟨t0, t1, t2⟩ := hS'; go_simp; with_reducible rfl) hHeld ?_
 refine tI 4 (some 7) (bs 15 91) rfl (by intro w' hS'; obtain ⟨t0, t1, t2⟩ := hS'; go_simp; with_reducible rfl) hHeld ?_
 refine tI 7 (some 10) (bs 15 219) rfl (by intro w' hS'; obtain ⟨t0, t1, t2⟩ := hS'; go_simp; with_reducible rfl) hHeld ?_
 refine one_ (i := 2) (N := some 5) (bs 15 223) rfl rfl (by kernel_rfl) (by decide) (fun K hK => ?_)
 refine goes_ Tryz.func155 (by kernel_rfl) rfl #[.slice A1 s.M.length c1] (by rfl) rfl rfl (by simp [Act.eval]) ?_
 refine (cloneM A1 c1 s.M _ (Kd.C_below HS.out.M HBb.out) (by have := H.out.nM; omega)).mono ?_
 rintro e wc ⟨B1, d1, rfl, _, hb⟩
 refine ⟨_, rfl, ?_⟩
 have HBc := As.mk (bt_ HBb.out hb)
 have HEc := As.mk ((hb.block _ (blk_lt HEb.out)).trans HEb.out)
 have HFc := As.mk ((hb.block _ (blk_lt HFb.out)).trans HFb.out)
 refine hK.out _ _ ⟨pw_cell_below hb hHeld.1, pw_cell_below hb hHeld.2.1, pw_cell_below hb hHeld.2.2⟩ (fun hHeld => ?_)
 clear hK K hb
 refine nI ?_
 refine pI 9 (some 12) (bs 15 735) ?_
 refine one_ (i := 5) (N := some 8) (bs 15 767) rfl rfl (by kernel_rfl) (by decide) (fun K hK => ?_)
 refine goes_ Tryz.func156 (by kernel_rfl) rfl #[.slice none 0 0] (by rfl) rfl rfl (by simp [Act.eval]) ?_
 refine (cloneT _).mono ?_
 rintro e wd ⟨rfl, hb⟩
 refine ⟨_, rfl, ?_⟩
 have HBd := As.mk (bt_ HBc.out hb)
 have HEd := As.mk ((hb.block _ (blk_lt HEc.out)).trans HEc.out)
 have HFd := As.mk ((hb.block _ (blk_lt HFc.out)).trans HFc.out)
 refine hK.out _ _ ⟨pw_cell_below hb hHeld.1, pw_cell_below hb hHeld.2.1, pw_cell_below hb hHeld.2.2⟩ (fun hHeld => ?_)
 clear hK K hb
 refine nI ?_
 refine one_ (i := 8) (N := some 11) (bs 15 1023) rfl rfl (by kernel_rfl) (by decide) (fun K hK => ?_)
 refine goes_ Tryz.func157 (by kernel_rfl) rfl #[.slice A3 s.X.length c3] (by rfl) rfl rfl (by simp [Act.eval]) ?_
 refine (cloneS A3 c3 s.X _ (Kd.C_below HS.out.X HBd.out) (by have := H.out.nX; omega)).mono ?_
 rintro e we ⟨B3, d3, rfl, _, hb⟩
 refine ⟨_, rfl, ?_⟩
 have HBe := As.mk (bt_ HBd.out hb)
 have HEe := As.mk ((hb.block _ (blk_lt HEd.out)).trans HEd.out)
 have HFe := As.mk ((hb.block _ (blk_lt HFd.out)).trans HFd.out)
 refine hK.out _ _ ⟨pw_cell_below hb hHeld.1, pw_cell_below hb hHeld.2.1, pw_cell_below hb hHeld.2.2⟩ (fun hHeld => ?_)
 clear hK K hb
 refine nI ?_
 refine last_ (i := 10) (N := none) (bs 15 2047) rfl rfl (by kernel_rfl) (by decide) (fun K hK => ?_)
 obtain ⟨h1, h2, h3⟩ := hHeld
 have hf1 := frozen_of HEe.out 1
 have hf2 := frozen_of HEe.out 2
 have hf3 := frozen_of HEe.out 3
 refine skip_ (w1 := we.setCell ⟨w.heap.size, 1, none⟩ (.slice B1 s.M.length d1)) (by rfl) rfl ?_ ?_
 ·first | (go_simp; done) | (go_simp; rfl)
 refine hK.out _ _ ?_
 clear hK K
 refine pI 11 (some 13) (bs 15 4095) ?_
 refine last_ (i := 12) (N := none) (bs 15 8191) rfl rfl (by kernel_rfl) (by decide) (fun K hK => ?_)
 refine skip_ (w1 := (we.setCell ⟨w.heap.size, 1, none⟩ (.slice B1 s.M.length d1)).setCell ⟨w.heap.size, 2, none⟩ (.slice none 0 0)) (by rfl) rfl ?_ ?_
 ·first | (go_simp; done) | (go_simp; rfl)
 refine hK.out _ _ ?_
 clear hK K
 refine pI 13 (some 14) (bs 15 16383) ?_
 refine last_ (i := 14) (N := none) (bs 15 32767) rfl rfl (by kernel_rfl) (by decide) (fun K hK => ?_)
 refine skip_ (w1 := ((we.setCell ⟨w.heap.size, 1, none⟩ (.slice B1 s.M.length d1)).setCell ⟨w.heap.size, 2, none⟩ (.slice none 0 0)).setCell ⟨w.heap.size, 3, none⟩ (.slice B3 s.X.length d3)) (by rfl) rfl ?_ ?_
 ·first | (go_simp; done) | (go_simp; rfl)
 refine hK.out _ _ ?_
 clear hK K
 refine done_ (by kernel_rfl) ?_
 have HEf : As ((((we.setCell ⟨w.heap.size, 1, none⟩ (.slice B1 s.M.length d1)).setCell ⟨w.heap.size, 2, none⟩ (.slice none 0 0)).setCell ⟨w.heap.size, 3, none⟩ (.slice B3 s.X.length d3)).heap[w.heap.size]? = some (.cells #[.bool false, .slice B1 s.M.length d1, .slice none 0 0, .slice B3 s.X.length d3, .slice A4 s.C.length c4, .slice A5 s.J.length c5] 95 (0, 0))) := As.mk (blk_set (blk_set (blk_set HEe.out 1 _) 2 _) 3 _)
 have HFf : As ((((we.setCell ⟨w.heap.size, 1, none⟩ (.slice B1 s.M.length d1)).setCell ⟨w.heap.size, 2, none⟩ (.slice none 0 0)).setCell ⟨w.heap.size, 3, none⟩ (.slice B3 s.X.length d3)).heap[w.heap.size + 1]? = some (.cells #[.bool false, .slice none 0 0, .slice none 0 0, .slice none 0 0, .slice none 0 0, .slice none 0 0] 95 (0, 0))) := As.mk (((Below.heap_setCell _ ⟨w.heap.size, 3, none⟩ _ _ (by simp)).trans (Below.heap_setCell _ ⟨w.heap.size, 2, none⟩ _ _ (by simp))).trans ((Below.heap_setCell _ ⟨w.heap.size, 1, none⟩ _ _ (by simp)).trans HFe.out))
 have HBf := As.mk (((HBe.out.setCell (p := ⟨w.heap.size, 1, none⟩) (Nat.le_refl _) (.slice B1 s.M.length d1)).setCell (p := ⟨w.heap.size, 2, none⟩) (Nat.le_refl _) (.slice none 0 0)).setCell (p := ⟨w.heap.size, 3, none⟩) (Nat.le_refl _) (.slice B3 s.X.length d3))
 clear h1 h2 h3 hf1 hf2 hf3 HEe HFe HBe HEd HFd HBd HEc HFc HBc HEb HFb HBb
 generalize ((we.setCell ⟨w.heap.size, 1, none⟩ (.slice B1 s.M.length d1)).setCell ⟨w.heap.size, 2, none⟩ (.slice none 0 0)).setCell ⟨w.heap.size, 3, none⟩ (.slice B3 s.X.length d3) = wf at HEf HFf HBf ⊢
 go_wp2
 refine start_ (n := 10) (S := fun w' => w'.cell? ⟨w.heap.size, 4, none⟩ = some (.slice A4 s.C.length c4) ∧ w'.cell? ⟨w.heap.size, 5, none⟩ = some (.slice A5 s.J.length c5)) (ds := [7, 9]) #[false, false, false, false, false, false, false, false, false, false] (by kernel_rfl) rfl rfl (⟨cell_of HEf.out rfl, cell_of HEf.out rfl⟩) (fun hHeld => ?_)
 have HEg : As (wf.drew.heap[w.heap.size]? = _) := As.mk HEf.out; have HFg : As (wf.drew.heap[w.heap.size + 1]? = _) := As.mk HFf.out; have HBg := As.mk (below_drew1 HBf.out); clear HEf HFf HBf; generalize wf.drew = wg at HEg HFg HBg hHeld ⊢
 refine pI 0 (some 15) (bs 10 1) ?_
 refine pI 3 (some 18) (bs 10 9) ?_
 refine tI 1 (some 16) (bs 10 11) rfl (by intro w' hS'; obtain ⟨t0, t1⟩ := hS'; go_simp; with_reducible rfl) hHeld ?_
 refine tI 4 (some 19) (bs 10 27) rfl (by intro w' hS'; obtain ⟨t0, t1⟩ := hS'; go_simp; with_reducible rfl) hHeld ?_
 refine one_ (i := 2) (N := some 17) (bs 10 31) rfl rfl (by kernel_rfl) (by decide) (fun K hK => ?_)
 refine goes_ Tryz.func158 (by kernel_rfl) rfl #[.slice A4 s.C.length c4] (by rfl) rfl rfl (by simp [Act.eval]) ?_
 refine (cloneC A4 c4 s.C _ (Kd.C_below HS.out.C HBg.out) (by have := H.out.nC; omega)).mono ?_
 rintro e wh ⟨B4, d4, rfl, _, hb⟩
 refine ⟨_, rfl, ?_⟩
 have HBh := As.mk (bt_ HBg.out hb)
 have HEh := As.mk ((hb.block _ (blk_lt HEg.out)).trans HEg.out)
 have HFh := As.mk ((hb.block _ (blk_lt HFg.out)).trans HFg.out)
 refine hK.out _ _ ⟨pw_cell_below hb hHeld.1, pw_cell_below hb hHeld.2⟩ (fun hHeld => ?_)
 clear hK K hb
 refine nI ?_
 refine pI 6 (some 21) (bs 10 95) ?_
 refine one_ (i := 5) (N := some 20) (bs 10 127) rfl rfl (by kernel_rfl) (by decide) (fun K hK => ?_)
 refine goes_ Tryz.func159 (by kernel_rfl) rfl #[.slice A5 s.J.length c5] (by rfl) rfl rfl (by simp [Act.eval]) ?_
 refine (cloneJ A5 c5 s.J _ (Kd.C_below HS.out.J HBh.out) (by have := H.out.nJ; omega)).mono ?_
 rintro e wi ⟨B5, d5, rfl, _, hb⟩
 refine ⟨_, rfl, ?_⟩
 have HBi := As.mk (bt_ HBh.out hb)
 have HEi := As.mk ((hb.block _ (blk_lt HEh.out)).trans HEh.out)
 have HFi := As.mk ((hb.block _ (blk_lt HFh.out)).trans HFh.out)
 refine hK.out _ _ ⟨pw_cell_below hb hHeld.1, pw_cell_below hb hHeld.2⟩ (fun hHeld => ?_)
 clear hK K hb
 refine nI ?_
 refine last_ (i := 7) (N := none) (bs 10 255) rfl rfl (by kernel_rfl) (by decide) (fun K hK => ?_)
 obtain ⟨h1, h2⟩ := hHeld
 have hf1 := frozen_of HEi.out 4
 have hf2 := frozen_of HEi.out 5
 refine skip_ (w1 := wi.setCell ⟨w.heap.size, 4, none⟩ (.slice B4 s.C.length d4)) (by rfl) rfl ?_ ?_
 ·first | (go_simp; done) | (go_simp; rfl)
 refine hK.out _ _ ?_
 clear hK K
 refine pI 8 (some 22) (bs 10 511) ?_
 refine last_ (i := 9) (N := none) (bs 10 1023) rfl rfl (by kernel_rfl) (by decide) (fun K hK => ?_)
 refine skip_ (w1 := (wi.setCell ⟨w.heap.size, 4, none⟩ (.slice B4 s.C.length d4)).setCell ⟨w.heap.size, 5, none⟩ (.slice B5 s.J.length d5)) (by rfl) rfl ?_ ?_
 ·first | (go_simp; done) | (go_simp; rfl)
 refine hK.out _ _ ?_
 clear hK K
 refine done_ (by kernel_rfl) ?_
 have HEj : As (((wi.setCell ⟨w.heap.size, 4, none⟩ (.slice B4 s.C.length d4)).setCell ⟨w.heap.size, 5, none⟩ (.slice B5 s.J.length d5)).heap[w.heap.size]? = some (.cells #[.bool false, .slice B1 s.M.length d1, .slice none 0 0, .slice B3 s.X.length d3, .slice B4 s.C.length d4, .slice B5 s.J.length d5] 95 (0, 0))) := As.mk (blk_set (blk_set HEi.out 4 _) 5 _)
 have HFj : As (((wi.setCell ⟨w.heap.size, 4, none⟩ (.slice B4 s.C.length d4)).setCell ⟨w.heap.size, 5, none⟩ (.slice B5 s.J.length d5)).heap[w.heap.size + 1]? = some (.cells #[.bool false, .slice none 0 0, .slice none 0 0, .slice none 0 0, .slice none 0 0, .slice none 0 0] 95 (0, 0))) := As.mk ((Below.heap_setCell _ ⟨w.heap.size, 5, none⟩ _ _ (by simp)).trans ((Below.heap_setCell _ ⟨w.heap.size, 4, none⟩ _ _ (by simp)).trans HFi.out))
 have HBj := As.mk ((HBi.out.setCell (p := ⟨w.heap.size, 4, none⟩) (Nat.le_refl _) (.slice B4 s.C.length d4)).setCell (p := ⟨w.heap.size, 5, none⟩) (Nat.le_refl _) (.slice B5 s.J.length d5))
 clear h1 h2 hf1 hf2 HEi HFi HBi HEh HFh HBh HEg HFg HBg
 generalize (wi.setCell ⟨w.heap.size, 4, none⟩ (.slice B4 s.C.length d4)).setCell ⟨w.heap.size, 5, none⟩ (.slice B5 s.J.length d5) = wj at HEj HFj HBj ⊢
 have e0 := cell_of (i := 0) HEj.out rfl
 have e1 := cell_of (i := 1) HEj.out rfl
 have e2 := cell_of (i := 2) HEj.out rfl
 have e3 := cell_of (i := 3) HEj.out rfl
 have e4 := cell_of (i := 4) HEj.out rfl
 have e5 := cell_of (i := 5) HEj.out rfl
 have g0 := cell_of (i := 0) HFj.out rfl
 have g1 := cell_of (i := 1) HFj.out rfl
 have g2 := cell_of (i := 2) HFj.out rfl
 have g3 := cell_of (i := 3) HFj.out rfl
 have g4 := cell_of (i := 4) HFj.out rfl
 have g5 := cell_of (i := 5) HFj.out rfl
 have z0 := frozen_of HFj.out 0
 have z1 := frozen_of HFj.out 1
 have z2 := frozen_of HFj.out 2
 have z3 := frozen_of HFj.out 3
 have z4 := frozen_of HFj.out 4
 have z5 := frozen_of HFj.out 5
 go_wp2
 refine bodyPost_ret (v := .agg #[.bool false, .slice B1 s.M.length d1, .slice none 0 0, .slice B3 s.X.length d3, .slice B4 s.C.length d4, .slice B5 s.J.length d5]) ?_ rfl ⟨B1, B3, B4, B5, d1, d3, d4, d5, rfl, ?_⟩
 ·simp only [results, show Tryz.f123.results = #[.cell 2 95] from rfl]
  go_simp
 ·repeat (first | exact HBj.out | refine Below.setCell ?_ (p := ⟨w.heap.size + 1, _, none⟩) (Nat.le_succ _) _)
end Go.Proofs.YtkffhgiiejbnaaaGreat.Vc
