import Derived.Test.YtkffhgiiejbnaaaGreatQ01
set_option maxRecDepth 100000
set_option maxHeartbeats 8000000
set_option linter.unusedVariables false
set_option linter.unusedSimpArgs false
namespace Go.Proofs.YtkffhgiiejbnaaaGreat.Rf
open Go.RowKit YtkffhgiiejbnaaaGreatW.PrintWords YtkffhgiiejbnaaaGreatW.PrintLast YtkffhgiiejbnaaaGreatW.PrintMore
attribute [local go_sem] max2_int min2_int max_two min_two max_three min_three max_four min_four
def ligatureref04_Begin.l0 : Nat → Int → List ByteArray → Option (List ByteArray × (List (S91)))
 | 0, _, _ => none
 | k + 1, x2, x145000 => if x2 < 256 then (if x145000.length < 8796093022208 then (ligatureref04_Begin.l0 k (wrap64 (x2 + 1)) (x145000 ++ [strOfNums (([(x2) % 256] : List Int))])) else (none)) else (some (x145000, ([] : List (S91))))
def ligatureref04_Begin.f (k : Nat)  : Option (List ByteArray × (List (S91))) := ligatureref04_Begin.l0 k 0 ([] : List ByteArray)
theorem ligatureref04_Begin.calls (k : Nat)  (r1 : List ByteArray) (r2 : List (S91)) (w : World) (h : ligatureref04_Begin.f k  = some (r1, r2)) :
  Calls Tryz.prog 124 #[] w fun e w' => ∃ v0_ v1_ : Value, e = .returned (.agg #[v0_, v1_]) ∧ Kd.R Kd.string 9 w' w.heap.size (fun _ => True) v0_ r1 ∧ Kd.R k91 91 w' w.heap.size (fun _ => True) v1_ r2 ∧ Below w.heap.size w w' := by
 have hu34 := Tryz.underlying34
 have HB := Aside0.mk (Below.refl w.heap.size w)
 have H : (ligatureref04_Begin.l0 k 0 ([] : List ByteArray)) = some (r1, r2) := h
 clear h
 have H' := Aside0.mk H
 clear H
 go_enter Tryz.func124, Tryz.ntmps124
 go_wp2_with (first | ((with_reducible refine gate_dst (N := 0) rfl ?_); refine box_event ?hg (N := 0) ?hd (cs := #[.slice none 0 0, .slice none 0 0]) (t := 34) ?hr ?_; (case hd => rfl); (case hg => rfl); (case hr => first | (go_simp; done) | (go_simp; rfl)); intro gb143 hg w1 hbox hb; have n0_ := Aside0.mk (below_step (by repeat (first | (with_reducible first | exact HB.out | apply below_alloc | apply pw_below_drewN | apply below_drew1) | exact HB.out)) hb); have n1_ := Aside0.mk (hbox); have n2_ := Aside0.mk ((by rw [hg]; exact (below_size (by repeat (first | (with_reducible first | exact HB.out | apply below_alloc | apply pw_below_drewN | apply below_drew1) | exact HB.out))) : w.heap.size ≤ gb143)); have n3_ := Aside0.mk ((by rw [hg]; exact (below_size (by repeat (first | (with_reducible first | exact HB.out | apply below_alloc | apply pw_below_drewN | apply below_drew1) | exact HB.out))) : w.heap.size ≤ gb143)); clear HB; have HB := n0_; have BK143 := n1_; have GW143 := n2_; have GE143 := n3_; clear n0_ n1_ n2_ n3_; clear hb hbox hg) | ((with_reducible refine gate_dst (N := 1) rfl ?_); refine box_event ?hg (N := 1) ?hd (cs := #[.slice none 0 0, .slice none 0 0]) (t := 34) ?hr ?_; (case hd => rfl); (case hg => rfl); (case hr => first | (go_simp; done) | (go_simp; rfl)); intro gb144 hg w2 hbox hb; have n0_ := Aside0.mk (blk_below (g := gb143) (o := .cells #[.slice none 0 0, .slice none 0 0] 34 (0, 0)) (by (with_reducible repeat (first | refine blk_drewN ?_ _ | refine blk_drew ?_ | refine blk_alloc ?_ _)); exact BK143.out) hb); have n1_ := Aside0.mk (below_step (by repeat (first | (with_reducible first | exact HB.out | apply below_alloc | apply pw_below_drewN | apply below_drew1 | refine below_set ?_ GE143.out) | exact HB.out)) hb); have n2_ := Aside0.mk (hbox); have n3_ := Aside0.mk ((by rw [hg]; exact (below_size (by repeat (first | (with_reducible first | exact HB.out | apply below_alloc | apply pw_below_drewN | apply below_drew1 | refine below_set ?_ GE143.out) | exact HB.out))) : w.heap.size ≤ gb144)); have n4_ := Aside0.mk ((by rw [hg]; exact (below_size (by repeat (first | (with_reducible first | exact HB.out | apply below_alloc | apply pw_below_drewN | apply below_drew1 | refine below_set ?_ GE143.out) | exact HB.out))) : w.heap.size ≤ gb144)); have n5_ := Aside0.mk ((by rw [hg]; exact Nat.ne_of_lt (blk_lt (g := gb143) (o := .cells #[.slice none 0 0, .slice none 0 0] 34 (0, 0)) (by (with_reducible repeat (first | refine blk_drewN ?_ _ | refine blk_drew ?_ | refine blk_alloc ?_ _)); exact BK143.out)) : gb143 ≠ gb144)); have n6_ := Aside0.mk ((by rw [hg]; exact Nat.ne_of_gt (blk_lt (g := gb143) (o := .cells #[.slice none 0 0, .slice none 0 0] 34 (0, 0)) (by (with_reducible repeat (first | refine blk_drewN ?_ _ | refine blk_drew ?_ | refine blk_alloc ?_ _)); exact BK143.out)) : gb144 ≠ gb143)); clear BK143; clear HB; have BK143 := n0_; have HB := n1_; have BK144 := n2_; have GW144 := n3_; have GE144 := n4_; have NB143_144 := n5_; have NB144_143 := n6_; clear n0_ n1_ n2_ n3_ n4_ n5_ n6_; clear hb hbox hg; have hnb3 := NB144_143.out; have hnc3 := NB143_144.out; have hcz4_0 : w2.cell? ⟨gb144, 0, none⟩ = some (.slice none 0 0) := (blk_cell BK144.out 0).trans rfl; have hcz4_1 : w2.cell? ⟨gb144, 1, none⟩ = some (.slice none 0 0) := (blk_cell BK144.out 1).trans rfl; have hfz4_0 := blk_frozen BK144.out 0; have hfz4_1 := blk_frozen BK144.out 1))
 go_loopg [2] k (fun kq v2 w' => ∃ (x2_1 : Int) (x145000_1 : List ByteArray) (u145000 : Value), v2 = .int .i64 x2_1 ∧ Aside0 (ligatureref04_Begin.l0 kq x2_1 x145000_1 = some (r1, r2)) ∧ Aside0 (kq ≤ k) ∧ Aside0 (Kd.R Kd.string 9 w' w.heap.size (fun _ => True) u145000 x145000_1) ∧ Aside0 (w'.heap[gb143]? = some (.cells #[(.slice none 0 0), (.slice none 0 0)] 34 (0, 0))) ∧ Aside0 (w'.heap[gb144]? = some (.cells #[u145000, (.slice none 0 0)] 34 (0, 0))) ∧ Aside0 (Below w.heap.size w w'))
 case atStart => exact ⟨(0), (([] : List ByteArray)), (.slice none 0 0), (by first | rfl | (simp; done) | (simp [*]; done)), H', ⟨Nat.le_refl _⟩, ⟨by first | exact Kd.R_nil _ _ _ _ _ | exact Kd.N_nil _ _ _ _ _ | exact Kd.V_nil _ _ _ _ _ | exact Kd.Q_nil _ _ _ _ _ | exact Kd.S_nil _ _ _ _ _⟩, ⟨by (with_reducible repeat (first | refine blk_drewN ?_ _ | refine blk_drew ?_ | refine blk_alloc ?_ _)); refine blk_far ?_ NB143_144.out _; (with_reducible repeat (first | refine blk_drewN ?_ _ | refine blk_drew ?_ | refine blk_alloc ?_ _)); refine blk_far ?_ NB143_144.out _; (with_reducible repeat (first | refine blk_drewN ?_ _ | refine blk_drew ?_ | refine blk_alloc ?_ _)); exact BK143.out⟩, ⟨by (with_reducible repeat (first | refine blk_drewN ?_ _ | refine blk_drew ?_ | refine blk_alloc ?_ _)); refine blk_put (cs := #[.slice none 0 0, .slice none 0 0]) ?_ 1 _ rfl; (with_reducible repeat (first | refine blk_drewN ?_ _ | refine blk_drew ?_ | refine blk_alloc ?_ _)); refine blk_put (cs := #[.slice none 0 0, .slice none 0 0]) ?_ 0 _ rfl; (with_reducible repeat (first | refine blk_drewN ?_ _ | refine blk_drew ?_ | refine blk_alloc ?_ _)); exact BK144.out⟩, ⟨by repeat (first | (with_reducible first | exact HB.out | apply below_alloc | apply pw_below_drewN | apply below_drew1 | refine below_set ?_ GE143.out | refine below_set ?_ GE144.out) | exact HB.out)⟩⟩
 case round =>
  clear H'
  try clear c1
  try clear p2
  try clear c3
  try clear hcz4_0
  try clear hcz4_1
  try clear hfz4_0
  try clear hfz4_1
  obtain ⟨x2_1, x145000_1, u145000, rfl, HA, HK1, HO_145000, BK143, BK144, HB⟩ := hrel
  cases gk with
  | zero => exact absurd HA.out (by simp [ligatureref04_Begin.l0])
  | succ k1 =>
   have H := HA.out
   clear HA
   simp only [ligatureref04_Begin.l0] at H
   by_cases c5 : x2_1 < 256
   ·rw [if_pos c5] at H
    have c5b0 : decide (x2_1 < 256) = true := decide_eq_true c5
    clear c5
    obtain ⟨y145, hy145⟩ : ∃ y_ : List Int, y_ = (([(x2_1) % 256] : List Int)) := ⟨_, rfl⟩
    replace H : (if x145000_1.length < 8796093022208 then (ligatureref04_Begin.l0 k1 (wrap64 (x2_1 + 1)) (x145000_1 ++ [strOfNums y145])) else (none)) = some (r1, r2) := by first | (rw [hy145]; with_reducible exact H) | (have H2_ := (Option.bind_some _ _).symm.trans H; rw [hy145]; with_reducible exact H2_) | (have H2_ := (Option.bind_some _ _).symm.trans H; with_reducible exact H2_) | with_reducible exact H | (rw [hy145]; exact H) | exact H
    have Ny145 := Aside0.mk hy145
    clear hy145
    by_cases c6 : x145000_1.length < 8796093022208
    ·rw [if_pos c6] at H
     have LMc6 := Aside0.mk c6
     clear c6
     obtain ⟨y148, hy148⟩ : ∃ y_ : List ByteArray, y_ = (x145000_1 ++ [strOfNums y145]) := ⟨_, rfl⟩
     replace H : (ligatureref04_Begin.l0 k1 (wrap64 (x2_1 + 1)) y148) = some (r1, r2) := by first | (rw [hy148]; with_reducible exact H) | (have H2_ := (Option.bind_some _ _).symm.trans H; rw [hy148]; with_reducible exact H2_) | (have H2_ := (Option.bind_some _ _).symm.trans H; with_reducible exact H2_) | with_reducible exact H | (rw [hy148]; exact H) | exact H
     have Ny148 := Aside0.mk hy148
     clear hy148
     have H' := Aside0.mk H
     clear H
     have hnb7 := NB144_143.out
     have hnc7 := NB143_144.out
     have hcz8_0 : wr.cell? ⟨gb144, 0, none⟩ = some (u145000) := (blk_cell BK144.out 0).trans rfl
     have hcz8_1 : wr.cell? ⟨gb144, 1, none⟩ = some (.slice none 0 0) := (blk_cell BK144.out 1).trans rfl
     have hfz8_0 := blk_frozen BK144.out 0
     have hfz8_1 := blk_frozen BK144.out 1
     go_wp2_with (first | ((with_reducible refine gate_dst (N := 12) rfl ?_); refine Kd.R_lit (Kd.int .u8) _ 5 ?hg (N := 12) ?hd (xs := ([(x2_1) % 256] : List Int)) (inner := [.int .u8 ((x2_1) % 256)]) (ok := fun _ => True) (okp := fun _ => True) ?hr ?hp (fun _ hk => hk) trivial (Below.refl _ _) (Nat.le_refl _) (by simp) ?_; (case hd => rfl); (case hg => rfl); (case hr => first | (go_simp; done) | (go_simp; rfl)); (case hp => exact (Reps.one (show Kd.M (Kd.int .u8) _ _ _ ((x2_1) % 256) [.int .u8 ((x2_1) % 256)] from rfl) (Reps.none _ _))); intro v146 w9 ho10 hb hg_ hnew_; clear hg_ hnew_; (first | rw [← Ny145.out] at ho10 | (simp only [Int.reduceToNat] at ho10; rw [← Ny145.out] at ho10)); have n0_ := Aside0.mk (Kd.R_below (by (with_reducible repeat (first | apply Kd.R_alloc | apply Kd.R_drewN | apply Kd.R_drew)); exact HO_145000.out) hb); have n1_ := Aside0.mk (Kd.R_lower ho10 (below_size (by repeat (first | (with_reducible first | exact HB.out | apply below_alloc | apply pw_below_drewN | apply below_drew1 | refine below_set ?_ GE143.out | refine below_set ?_ GE144.out) | exact HB.out)))); have n2_ := Aside0.mk (blk_below (g := gb143) (o := .cells #[.slice none 0 0, .slice none 0 0] 34 (0, 0)) (by (with_reducible repeat (first | refine blk_drewN ?_ _ | refine blk_drew ?_ | refine blk_alloc ?_ _)); exact BK143.out) hb); have n3_ := Aside0.mk (blk_below (g := gb144) (o := .cells #[u145000, .slice none 0 0] 34 (0, 0)) (by (with_reducible repeat (first | refine blk_drewN ?_ _ | refine blk_drew ?_ | refine blk_alloc ?_ _)); exact BK144.out) hb); have n4_ := Aside0.mk (below_step (by repeat (first | (with_reducible first | exact HB.out | apply below_alloc | apply pw_below_drewN | apply below_drew1 | refine below_set ?_ GE143.out | refine below_set ?_ GE144.out) | exact HB.out)) hb); clear HO_145000; clear BK143; clear BK144; clear HB; have HO_145000 := n0_; have HO147 := n1_; have BK143 := n2_; have BK144 := n3_; have HB := n4_; clear n0_ n1_ n2_ n3_ n4_; clear hb ho10; have hcv11 := own_string (P := Tryz.prog) Tryz.underlying109 Tryz.underlying5 Tryz.underlying9 (Kd.own_of_R HO147.out)) | ((with_reducible refine gate_builtin (b := .append) (xs := #[.tmp 9, .tmp 14]) rfl ?_); at_builtin; refine Kd.R_append Kd.string (w0 := w) w.heap.size rfl (.tmp 9) (.tmp 14) 31 9 (.string ⟨#[]⟩) 16 rfl Tryz.underlying31 info9 rfl (by decide) (by omega) u145000 x145000_1 (strOfNums y145) [.string (strOfNums y145)] (fun _ => True) (fun _ => False) rfl rfl ?aP (fun _ hk => hk.elim) ?aF ?aO ?aB ?aS ?aL ?_; (case aP => exact rfl); (case aB => exact (by repeat (first | (with_reducible first | exact HB.out | apply below_alloc | apply pw_below_drewN | apply below_drew1 | refine below_set ?_ GE143.out | refine below_set ?_ GE144.out) | exact HB.out))); (case aF => exact (fun _ _ => trivial)); (case aO => exact (by (with_reducible repeat (first | apply Kd.R_alloc | apply Kd.R_drewN | apply Kd.R_drew)); exact HO_145000.out)); (case aS => exact (below_size (by repeat (first | (with_reducible first | exact HB.out | apply below_alloc | apply pw_below_drewN | apply below_drew1 | refine below_set ?_ GE143.out | refine below_set ?_ GE144.out) | exact HB.out)))); (case aL => have := LMc6.out; omega); intro v149 w12 ho hb hg hat; rw [← Ny148.out] at ho; have n0_ := Aside0.mk (blk_grown (g := gb143) (o := .cells #[.slice none 0 0, .slice none 0 0] 34 (0, 0)) (by (with_reducible repeat (first | refine blk_drewN ?_ _ | refine blk_drew ?_ | refine blk_alloc ?_ _)); exact BK143.out) hg (Kd.R_ne HO_145000.out BK143.out (by decide))); have n1_ := Aside0.mk (blk_grown (g := gb144) (o := .cells #[u145000, .slice none 0 0] 34 (0, 0)) (by (with_reducible repeat (first | refine blk_drewN ?_ _ | refine blk_drew ?_ | refine blk_alloc ?_ _)); exact BK144.out) hg (Kd.R_ne HO_145000.out BK144.out (by decide))); have n2_ := Aside0.mk (Kd.R_over' (by (with_reducible repeat (first | apply Kd.R_alloc | apply Kd.R_drewN | apply Kd.R_drew)); exact HO147.out) (Kd.R_typed (by (with_reducible repeat (first | apply Kd.R_alloc | apply Kd.R_drewN | apply Kd.R_drew)); exact HO_145000.out)) (by decide) hg); have n3_ := Aside0.mk (hb); have n4_ := Aside0.mk (ho); clear BK143; clear BK144; clear HO147; clear HB; clear HO_145000; have BK143 := n0_; have BK144 := n1_; have HO147 := n2_; have HB := n3_; have HO150 := n4_; clear n0_ n1_ n2_ n3_ n4_; clear ho hb hg hat; obtain ⟨Ao13, co13, eo13⟩ := Kd.R_slice HO150.out; subst eo13; have hcz14_0 : w12.cell? ⟨gb144, 0, none⟩ = some (u145000) := (blk_cell BK144.out 0).trans rfl; have hcz14_1 : w12.cell? ⟨gb144, 1, none⟩ = some (.slice none 0 0) := (blk_cell BK144.out 1).trans rfl; have hfz14_0 := blk_frozen BK144.out 0; have hfz14_1 := blk_frozen BK144.out 1))
     go_roundg k1
     case measure => have := HK1.out; omega
     case rel => exact ⟨(wrap64 (x2_1 + 1)), (y148), (.slice Ao13 y148.length co13), (by first | rfl | (simp; done) | (simp [*]; done)), H', ⟨by have := HK1.out; omega⟩, ⟨by (with_reducible repeat (first | apply Kd.R_alloc | apply Kd.R_drewN | apply Kd.R_drew)); exact Kd.R_mono (Kd.R_far (p := ⟨gb144, 0, none⟩) (Kd.R_types HO150.out BK144.out (by decide)) (fun _ hk => hk.2) (.slice Ao13 y148.length co13)) (fun _ hk => trivial)⟩, ⟨by (with_reducible repeat (first | refine blk_drewN ?_ _ | refine blk_drew ?_ | refine blk_alloc ?_ _)); refine blk_far ?_ NB143_144.out _; (with_reducible repeat (first | refine blk_drewN ?_ _ | refine blk_drew ?_ | refine blk_alloc ?_ _)); exact BK143.out⟩, ⟨by (with_reducible repeat (first | refine blk_drewN ?_ _ | refine blk_drew ?_ | refine blk_alloc ?_ _)); refine blk_put (cs := #[u145000, .slice none 0 0]) ?_ 0 _ rfl; (with_reducible repeat (first | refine blk_drewN ?_ _ | refine blk_drew ?_ | refine blk_alloc ?_ _)); exact BK144.out⟩, ⟨by repeat (first | (with_reducible first | exact HB.out | apply below_alloc | apply pw_below_drewN | apply below_drew1 | refine below_set ?_ GE143.out | refine below_set ?_ GE144.out) | exact HB.out)⟩⟩
    ·rw [if_neg c6] at H
     exact absurd H (by simp)
   ·rw [if_neg c5] at H
    have c5b0 : decide (x2_1 < 256) = false := decide_eq_false c5
    clear c5
    simp only [Option.some.injEq, Prod.mk.injEq] at H
    obtain ⟨rfl, rfl⟩ := H
    have hnb15 := NB144_143.out
    have hnc15 := NB143_144.out
    have hcz16_0 : wr.cell? ⟨gb144, 0, none⟩ = some (u145000) := (blk_cell BK144.out 0).trans rfl
    have hcz16_1 : wr.cell? ⟨gb144, 1, none⟩ = some (.slice none 0 0) := (blk_cell BK144.out 1).trans rfl
    have hfz16_0 := blk_frozen BK144.out 0
    have hfz16_1 := blk_frozen BK144.out 1
    obtain ⟨Ao17, co17, eo17⟩ := Kd.R_slice HO_145000.out
    subst eo17
    have hcz18_0 : wr.cell? ⟨gb143, 0, none⟩ = some (.slice none 0 0) := (blk_cell BK143.out 0).trans rfl
    have hcz18_1 : wr.cell? ⟨gb143, 1, none⟩ = some (.slice none 0 0) := (blk_cell BK143.out 1).trans rfl
    have hfz18_0 := blk_frozen BK143.out 0
    have hfz18_1 := blk_frozen BK143.out 1
    go_wp2
    refine bodyPost_ret (results_cell_row rfl _ _ gb143 34 #[.slice Ao17 x145000_1.length co17, .slice none 0 0] (0, 0) _ rfl (by (with_reducible repeat (first | refine blk_drewN ?_ _ | refine blk_drew ?_ | refine blk_alloc ?_ _)); refine blk_put (cs := #[.slice Ao17 x145000_1.length co17, .slice none 0 0]) ?_ 1 _ rfl; (with_reducible repeat (first | refine blk_drewN ?_ _ | refine blk_drew ?_ | refine blk_alloc ?_ _)); refine blk_put (cs := #[.slice none 0 0, .slice none 0 0]) ?_ 0 _ rfl; (with_reducible repeat (first | refine blk_drewN ?_ _ | refine blk_drew ?_ | refine blk_alloc ?_ _)); exact BK143.out) Tryz.underlying34 rfl (by kernel_rfl)) rfl ?_
    exact ⟨_, _, by first | rfl | (simp [errW_none, errW_some] <;> rfl) | (simp [*, errW_none, errW_some] <;> rfl), by (with_reducible repeat (first | apply Kd.R_alloc | apply Kd.R_drewN | apply Kd.R_drew)); exact Kd.R_mono (Kd.R_far (p := ⟨gb143, 1, none⟩) (Kd.R_far (p := ⟨gb143, 0, none⟩) (Kd.R_types HO_145000.out BK143.out (by decide)) (fun _ hk => hk.2) (.slice Ao17 x145000_1.length co17)) (fun _ hk => hk.2) (.slice none 0 0)) (fun _ hk => trivial), by first | exact Kd.R_nil _ _ _ _ _ | exact Kd.N_nil _ _ _ _ _ | exact Kd.V_nil _ _ _ _ _ | exact Kd.Q_nil _ _ _ _ _ | exact Kd.S_nil _ _ _ _ _, by repeat (first | (with_reducible first | exact HB.out | apply below_alloc | apply pw_below_drewN | apply below_drew1 | refine below_set ?_ GE143.out | refine below_set ?_ GE144.out) | exact HB.out)⟩
end Go.Proofs.YtkffhgiiejbnaaaGreat.Rf
namespace Go.Proofs.YtkffhgiiejbnaaaGreat.Rf
open Go.RowKit YtkffhgiiejbnaaaGreatW.PrintWords YtkffhgiiejbnaaaGreatW.PrintLast YtkffhgiiejbnaaaGreatW.PrintMore
attribute [local go_sem] max2_int min2_int max_two min_two max_three min_three max_four min_four
mutual
def ligatureref09_Check.l0 : Nat → List (S93) → Int → Option (Int × Int)
 | 0, _, _ => none
 | k + 1, x0, x4 => if x4 < (x0.length : Int) then (if 0 ≤ x4 then (if ((rd_T93 x0 x4).f0) < 0 then (ligatureref09_Check.j1 k x0 x4 true) else (if ((rd_T93 x0 x4).f0) > 1073741824 then (ligatureref09_Check.j1 k x0 x4 true) else (if (((rd_T93 x0 x4).f1).size : Int) < 1 then (ligatureref09_Check.j1 k x0 x4 true) else (ligatureref09_Check.j1 k x0 x4 (decide ((((rd_T93 x0 x4).f1).size : Int) > 64)))))) else (none)) else (some ((x0.length : Int), 0))
def ligatureref09_Check.j1 : Nat → List (S93) → Int → Bool → Option (Int × Int)
 | 0, _, _, _ => none
 | k + 1, x0, x4, x43 => if x43 = true then (some (x4, 1)) else (if x4 ≥ 32 then (some (x4, 3)) else (ligatureref09_Check.l1 k x0 x4 0))
def ligatureref09_Check.l1 : Nat → List (S93) → Int → Int → Option (Int × Int)
 | 0, _, _, _ => none
 | k + 1, x0, x4, x5 => if x5 < x4 then (if 0 ≤ x5 then (if x5 < (x0.length : Int) then (if 0 ≤ x4 then (if x4 < (x0.length : Int) then (if ((rd_T93 x0 x5).f0) = ((rd_T93 x0 x4).f0) then (some (x4, 10)) else (if ((rd_T93 x0 x5).f1).toList = ((rd_T93 x0 x4).f1).toList then (some (x4, 10)) else (ligatureref09_Check.l1 k x0 x4 (wrap64 (x5 + 1))))) else (none)) else (none)) else (none)) else (none)) else (ligatureref09_Check.l0 k x0 (wrap64 (x4 + 1)))
end
def ligatureref09_Check.f (k : Nat) (l0 : List (S93)) : Option (Int × Int) := ligatureref09_Check.l0 k l0 0
theorem ligatureref09_Check.calls (k : Nat) (A0 : Option Addr) (c0 : Nat) (l0 : List (S93)) (r1 : Int) (r2 : Int) (w : World) (hr0 : Kd.C k93 w A0 l0.length l0) (hc0 : l0.length ≤ c0) (h : ligatureref09_Check.f k l0 = some (r1, r2)) :
  Calls Tryz.prog 89 #[.slice A0 l0.length c0] w fun e w' => e = .returned (.tuple #[.int .i64 r1, .int .i64 r2]) ∧ Drawn0 w w' := by
 have HR0 := Aside0.mk hr0
 have HC0 := Aside0.mk hc0
 clear hr0 hc0
 have H : (ligatureref09_Check.l0 k l0 0) = some (r1, r2) := h
 clear h
 have H' := Aside0.mk H
 clear H
 go_enter Tryz.func89, Tryz.ntmps89
 go_wp2
 repeat (go_quiet (fail); try go_wp2)
 go_loopg [4] k (fun kq v4 w' => ∃ (x4_1 : Int), v4 = .int .i64 x4_1 ∧ Aside0 (ligatureref09_Check.l0 kq l0 x4_1 = some (r1, r2)) ∧ Aside0 (kq ≤ k) ∧ Drawn0 w w')
 case atStart => exact ⟨(0), (by first | rfl | (simp; done) | (simp [*]; done)), H', ⟨Nat.le_refl _⟩, by repeat (first | exact Drawn0.refl _ | apply Drawn0.step)⟩
 case round =>
  clear H'
  obtain ⟨x4_1, rfl, HA, HK1, ⟨m1, rfl⟩⟩ := hrel
  cases gk with
  | zero => exact absurd HA.out (by simp [ligatureref09_Check.l0])
  | succ k1 =>
   have H := HA.out
   clear HA
   simp only [ligatureref09_Check.l0] at H
   by_cases c2 : x4_1 < (l0.length : Int)
   ·rw [if_pos c2] at H
    have c2b0 : decide (x4_1 < (l0.length : Int)) = true := decide_eq_true c2
    clear c2
    have HC3 := Aside0.mk H
    clear H
    go_upto_region 4 with (fail)
    repeat (go_quiet (fail); go_upto_region 4 with (fail))
    go_cut [43] (fun v43 wc => ∃ (kq : Nat) (x43_2 : Bool), v43 = .bool x43_2 ∧ Aside0 (ligatureref09_Check.j1 kq l0 x4_1 x43_2 = some (r1, r2)) ∧ Aside0 (kq ≤ k1) ∧ Drawn0 w wc)
    case first =>
     have H := HC3.out
     clear HC3
     by_cases c4 : 0 ≤ x4_1
     ·rw [if_pos c4] at H
      have c4b0 : decide (0 ≤ x4_1) = true := decide_eq_true c4
      clear c4
      (first | rw [c4b0] | (simp only [i64_w, i32_w]; rw [c4b0]) | skip)
      by_cases c5 : ((rd_T93 l0 x4_1).f0) < 0
      ·rw [if_pos c5] at H
       have c5b0 : decide (((rd_T93 l0 x4_1).f0) < 0) = true := decide_eq_true c5
       clear c5
       have H' := Aside0.mk H
       clear H
       have p211 : 0 ≤ (x4_1 : Int) := of_decide_eq_true (by first | (with_reducible assumption) | assumption)
       have q211 : x4_1 < (l0.length : Int) := of_decide_eq_true (by first | (with_reducible assumption) | assumption)
       obtain ⟨ad211, e211, hx211_0, hx211_1⟩ := at_T93 HR0.out x4_1 p211 q211
       cases e211
       replace p211 := eq_true p211
       replace q211 := eq_true q211
       go_wp2
       repeat (go_quiet (fail); try go_wp2)
       go_meet
       case rel => exact ⟨_, (true), (by first | rfl | (simp; done) | (simp [*]; done)), H', ⟨by have := HK1.out; first | omega | exact Nat.le_refl _⟩, by repeat (first | exact Drawn0.refl _ | apply Drawn0.step)⟩
      ·rw [if_neg c5] at H
       have c5b0 : decide (((rd_T93 l0 x4_1).f0) < 0) = false := decide_eq_false c5
       clear c5
       by_cases c6 : ((rd_T93 l0 x4_1).f0) > 1073741824
       ·rw [if_pos c6] at H
        have c6b0 : decide (1073741824 < ((rd_T93 l0 x4_1).f0)) = true := decide_eq_true c6
        clear c6
        have H' := Aside0.mk H
        clear H
        have p211 : 0 ≤ (x4_1 : Int) := of_decide_eq_true (by first | (with_reducible assumption) | assumption)
        have q211 : x4_1 < (l0.length : Int) := of_decide_eq_true (by first | (with_reducible assumption) | assumption)
        obtain ⟨ad211, e211, hx211_0, hx211_1⟩ := at_T93 HR0.out x4_1 p211 q211
        cases e211
        replace p211 := eq_true p211
        replace q211 := eq_true q211
        have p212 : 0 ≤ (x4_1 : Int) := of_decide_eq_true (by first | (with_reducible assumption) | assumption)
        have q212 : x4_1 < (l0.length : Int) := of_decide_eq_true (by first | (with_reducible assumption) | assumption)
        obtain ⟨ad212, e212, hx212_0, hx212_1⟩ := at_T93 HR0.out x4_1 p212 q212
        obtain rfl : ad211 = ad212 := (by injection e212)
        replace p212 := eq_true p212
        replace q212 := eq_true q212
        go_wp2
        repeat (go_quiet (fail); try go_wp2)
        go_meet
        case rel => exact ⟨_, (true), (by first | rfl | (simp; done) | (simp [*]; done)), H', ⟨by have := HK1.out; first | omega | exact Nat.le_refl _⟩, by repeat (first | exact Drawn0.refl _ | apply Drawn0.step)⟩
       ·rw [if_neg c6] at H
        have c6b0 : decide (1073741824 < ((rd_T93 l0 x4_1).f0)) = false := decide_eq_false c6
        clear c6
        by_cases c7 : (((rd_T93 l0 x4_1).f1).size : Int) < 1
        ·rw [if_pos c7] at H
         have c7b0 : decide ((((rd_T93 l0 x4_1).f1).size : Int) < 1) = true := decide_eq_true c7
         have c7b1 : decide (((rd_T93 l0 x4_1).f1).size < 1) = true := decide_eq_true (by omega)
         clear c7
         have H' := Aside0.mk H
         clear H
         have p211 : 0 ≤ (x4_1 : Int) := of_decide_eq_true (by first | (with_reducible assumption) | assumption)
         have q211 : x4_1 < (l0.length : Int) := of_decide_eq_true (by first | (with_reducible assumption) | assumption)
         obtain ⟨ad211, e211, hx211_0, hx211_1⟩ := at_T93 HR0.out x4_1 p211 q211
         cases e211
         replace p211 := eq_true p211
         replace q211 := eq_true q211
         have p212 : 0 ≤ (x4_1 : Int) := of_decide_eq_true (by first | (with_reducible assumption) | assumption)
         have q212 : x4_1 < (l0.length : Int) := of_decide_eq_true (by first | (with_reducible assumption) | assumption)
         obtain ⟨ad212, e212, hx212_0, hx212_1⟩ := at_T93 HR0.out x4_1 p212 q212
         obtain rfl : ad211 = ad212 := (by injection e212)
         replace p212 := eq_true p212
         replace q212 := eq_true q212
         have p213 : 0 ≤ (x4_1 : Int) := of_decide_eq_true (by first | (with_reducible assumption) | assumption)
         have q213 : x4_1 < (l0.length : Int) := of_decide_eq_true (by first | (with_reducible assumption) | assumption)
         obtain ⟨ad213, e213, hx213_0, hx213_1⟩ := at_T93 HR0.out x4_1 p213 q213
         obtain rfl : ad211 = ad213 := (by injection e213)
         replace p213 := eq_true p213
         replace q213 := eq_true q213
         go_wp2
         repeat (go_quiet (fail); try go_wp2)
         go_meet
         case rel => exact ⟨_, (true), (by first | rfl | (simp; done) | (simp [*]; done)), H', ⟨by have := HK1.out; first | omega | exact Nat.le_refl _⟩, by repeat (first | exact Drawn0.refl _ | apply Drawn0.step)⟩
        ·rw [if_neg c7] at H
         have c7b0 : decide ((((rd_T93 l0 x4_1).f1).size : Int) < 1) = false := decide_eq_false c7
         have c7b1 : decide (((rd_T93 l0 x4_1).f1).size < 1) = false := decide_eq_false (by omega)
         clear c7
         have H' := Aside0.mk H
         clear H
         have p211 : 0 ≤ (x4_1 : Int) := of_decide_eq_true (by first | (with_reducible assumption) | assumption)
         have q211 : x4_1 < (l0.length : Int) := of_decide_eq_true (by first | (with_reducible assumption) | assumption)
         obtain ⟨ad211, e211, hx211_0, hx211_1⟩ := at_T93 HR0.out x4_1 p211 q211
         cases e211
         replace p211 := eq_true p211
         replace q211 := eq_true q211
         have p212 : 0 ≤ (x4_1 : Int) := of_decide_eq_true (by first | (with_reducible assumption) | assumption)
         have q212 : x4_1 < (l0.length : Int) := of_decide_eq_true (by first | (with_reducible assumption) | assumption)
         obtain ⟨ad212, e212, hx212_0, hx212_1⟩ := at_T93 HR0.out x4_1 p212 q212
         obtain rfl : ad211 = ad212 := (by injection e212)
         replace p212 := eq_true p212
         replace q212 := eq_true q212
         have p213 : 0 ≤ (x4_1 : Int) := of_decide_eq_true (by first | (with_reducible assumption) | assumption)
         have q213 : x4_1 < (l0.length : Int) := of_decide_eq_true (by first | (with_reducible assumption) | assumption)
         obtain ⟨ad213, e213, hx213_0, hx213_1⟩ := at_T93 HR0.out x4_1 p213 q213
         obtain rfl : ad211 = ad213 := (by injection e213)
         replace p213 := eq_true p213
         replace q213 := eq_true q213
         have p214 : 0 ≤ (x4_1 : Int) := of_decide_eq_true (by first | (with_reducible assumption) | assumption)
         have q214 : x4_1 < (l0.length : Int) := of_decide_eq_true (by first | (with_reducible assumption) | assumption)
         obtain ⟨ad214, e214, hx214_0, hx214_1⟩ := at_T93 HR0.out x4_1 p214 q214
         obtain rfl : ad211 = ad214 := (by injection e214)
         replace p214 := eq_true p214
         replace q214 := eq_true q214
         go_wp2
         repeat (go_quiet (fail); try go_wp2)
         go_meet
         case rel => exact ⟨_, (decide ((((rd_T93 l0 x4_1).f1).size : Int) > 64)), (by first | rfl | (simp; done) | (simp [*]; done)), H', ⟨by have := HK1.out; first | omega | exact Nat.le_refl _⟩, by repeat (first | exact Drawn0.refl _ | apply Drawn0.step)⟩
     ·rw [if_neg c4] at H
      exact absurd H (by simp)
    case rest =>
     clear HC3
     try clear c2
     try clear c2b0
     try clear p2
     try clear q2
     try clear hx2
     try clear c4
     try clear c4b0
     try clear c5
     try clear c5b0
     try clear c6
     try clear c6b0
     try clear c7
     try clear c7b0
     try clear c7b1
     try clear hx211_0
     try clear hx211_1
     try clear hx212_0
     try clear hx212_1
     try clear hx213_0
     try clear hx213_1
     try clear hx214_0
     try clear hx214_1
     try clear p211
     try clear p212
     try clear p213
     try clear p214
     try clear q211
     try clear q212
     try clear q213
     try clear q214
     obtain ⟨kq, x43_2, rfl, HA, HJ2, ⟨mc2, rfl⟩⟩ := hcut
     cases kq with
     | zero => exact absurd HA.out (by simp [ligatureref09_Check.j1])
     | succ kj2 =>
      have H := HA.out
      clear HA
      simp only [ligatureref09_Check.j1] at H
      by_cases c8 : x43_2 = true
      ·subst c8
       have H1 : (some (x4_1, 1)) = some (r1, r2) := by rw [if_pos rfl] at H; exact H
       clear H
       have H := H1
       clear H1
       simp only [Option.some.injEq, Prod.mk.injEq] at H
       obtain ⟨rfl, rfl⟩ := H
       go_wp2
       repeat (go_quiet (fail); try go_wp2)
       go_ret2
       exact ⟨by first | rfl | (simp; done) | (simp [*]; done), by repeat (first | exact Drawn0.refl _ | apply Drawn0.step)⟩
      ·replace c8 := Bool.eq_false_iff.mpr c8
       subst c8
       have H1 : (if x4_1 ≥ 32 then (some (x4_1, 3)) else (ligatureref09_Check.l1 kj2 l0 x4_1 0)) = some (r1, r2) := by rw [if_neg (show ¬ (false = true) by decide)] at H; exact H
       clear H
       have H := H1
       clear H1
       by_cases c9 : x4_1 ≥ 32
       ·rw [if_pos c9] at H
        have c9b0 : decide (32 ≤ x4_1) = true := decide_eq_true c9
        clear c9
        simp only [Option.some.injEq, Prod.mk.injEq] at H
        obtain ⟨rfl, rfl⟩ := H
        go_wp2
        repeat (go_quiet (fail); try go_wp2)
        go_ret2
        exact ⟨by first | rfl | (simp; done) | (simp [*]; done), by repeat (first | exact Drawn0.refl _ | apply Drawn0.step)⟩
       ·rw [if_neg c9] at H
        have c9b0 : decide (32 ≤ x4_1) = false := decide_eq_false c9
        clear c9
        have H' := Aside0.mk H
        clear H
        go_wp2
        repeat (go_quiet (fail); try go_wp2)
        go_loopg [5] kj2 (fun kq v5 w' => ∃ (x5_3 : Int), v5 = .int .i64 x5_3 ∧ Aside0 (ligatureref09_Check.l1 kq l0 x4_1 x5_3 = some (r1, r2)) ∧ Aside0 (kq ≤ kj2) ∧ Drawn0 w w')
        case atStart => exact ⟨(0), (by first | rfl | (simp; done) | (simp [*]; done)), H', ⟨Nat.le_refl _⟩, by repeat (first | exact Drawn0.refl _ | apply Drawn0.step)⟩
        case round =>
         clear H'
         try clear c2
         try clear c2b0
         try clear p2
         try clear q2
         try clear hx2
         try clear c4
         try clear c4b0
         try clear c5
         try clear c5b0
         try clear c6
         try clear c6b0
         try clear c7
         try clear c7b0
         try clear c7b1
         try clear c8
         try clear c9
         try clear c9b0
         try clear hx211_0
         try clear hx211_1
         try clear hx212_0
         try clear hx212_1
         try clear hx213_0
         try clear hx213_1
         try clear hx214_0
         try clear hx214_1
         try clear p2
         try clear p211
         try clear p212
         try clear p213
         try clear p214
         try clear q2
         try clear q211
         try clear q212
         try clear q213
         try clear q214
         obtain ⟨x5_3, rfl, HA, HK3, ⟨m3, rfl⟩⟩ := hrel
         cases gk with
         | zero => exact absurd HA.out (by simp [ligatureref09_Check.l1])
         | succ k3 =>
          have H := HA.out
          clear HA
          simp only [ligatureref09_Check.l1] at H
          by_cases c10 : x5_3 < x4_1
          ·rw [if_pos c10] at H
           have c10b0 : decide (x5_3 < x4_1) = true := decide_eq_true c10
           clear c10
           by_cases c11 : 0 ≤ x5_3
           ·rw [if_pos c11] at H
            have c11b0 : decide (0 ≤ x5_3) = true := decide_eq_true c11
            clear c11
            by_cases c12 : x5_3 < (l0.length : Int)
            ·rw [if_pos c12] at H
             have c12b0 : decide (x5_3 < (l0.length : Int)) = true := decide_eq_true c12
             clear c12
             by_cases c13 : 0 ≤ x4_1
             ·rw [if_pos c13] at H
              have c13b0 : decide (0 ≤ x4_1) = true := decide_eq_true c13
              clear c13
              by_cases c14 : x4_1 < (l0.length : Int)
              ·rw [if_pos c14] at H
               have c14b0 : decide (x4_1 < (l0.length : Int)) = true := decide_eq_true c14
               clear c14
               by_cases c15 : ((rd_T93 l0 x5_3).f0) = ((rd_T93 l0 x4_1).f0)
               ·rw [if_pos c15] at H
                have c15b0 : (((rd_T93 l0 x5_3).f0) == ((rd_T93 l0 x4_1).f0)) = true := beq_iff_eq.mpr c15
                have c15b1 : (((rd_T93 l0 x5_3).f0) != ((rd_T93 l0 x4_1).f0)) = false := bne_eq_false_iff_eq.mpr c15
                clear c15
                simp only [Option.some.injEq, Prod.mk.injEq] at H
                obtain ⟨rfl, rfl⟩ := H
                have p215 : 0 ≤ (x5_3 : Int) := of_decide_eq_true (by first | (with_reducible assumption) | assumption)
                have q215 : x5_3 < (l0.length : Int) := of_decide_eq_true (by first | (with_reducible assumption) | assumption)
                obtain ⟨ad215, e215, hx215_0, hx215_1⟩ := at_T93 HR0.out x5_3 p215 q215
                cases e215
                replace p215 := eq_true p215
                replace q215 := eq_true q215
                have p216 : 0 ≤ (x4_1 : Int) := of_decide_eq_true (by first | (with_reducible assumption) | assumption)
                have q216 : x4_1 < (l0.length : Int) := of_decide_eq_true (by first | (with_reducible assumption) | assumption)
                obtain ⟨ad216, e216, hx216_0, hx216_1⟩ := at_T93 HR0.out x4_1 p216 q216
                obtain rfl : ad215 = ad216 := (by injection e216)
                replace p216 := eq_true p216
                replace q216 := eq_true q216
                go_wp2
                repeat (go_quiet (fail); try go_wp2)
                go_ret2
                exact ⟨by first | rfl | (simp; done) | (simp [*]; done), by repeat (first | exact Drawn0.refl _ | apply Drawn0.step)⟩
               ·rw [if_neg c15] at H
                have c15b0 : (((rd_T93 l0 x5_3).f0) == ((rd_T93 l0 x4_1).f0)) = false := beq_eq_false_iff_ne.mpr c15
                have c15b1 : (((rd_T93 l0 x5_3).f0) != ((rd_T93 l0 x4_1).f0)) = true := bne_iff_ne.mpr c15
                by_cases c16 : ((rd_T93 l0 x5_3).f1).toList = ((rd_T93 l0 x4_1).f1).toList
                ·rw [if_pos c16] at H
                 have c16b0 : (((rd_T93 l0 x5_3).f1).toList == ((rd_T93 l0 x4_1).f1).toList) = true := beq_iff_eq.mpr c16
                 have c16b1 : (((rd_T93 l0 x5_3).f1).toList != ((rd_T93 l0 x4_1).f1).toList) = false := bne_eq_false_iff_eq.mpr c16
                 clear c16
                 simp only [Option.some.injEq, Prod.mk.injEq] at H
                 obtain ⟨rfl, rfl⟩ := H
                 have p215 : 0 ≤ (x5_3 : Int) := of_decide_eq_true (by first | (with_reducible assumption) | assumption)
                 have q215 : x5_3 < (l0.length : Int) := of_decide_eq_true (by first | (with_reducible assumption) | assumption)
                 obtain ⟨ad215, e215, hx215_0, hx215_1⟩ := at_T93 HR0.out x5_3 p215 q215
                 cases e215
                 replace p215 := eq_true p215
                 replace q215 := eq_true q215
                 have p216 : 0 ≤ (x4_1 : Int) := of_decide_eq_true (by first | (with_reducible assumption) | assumption)
                 have q216 : x4_1 < (l0.length : Int) := of_decide_eq_true (by first | (with_reducible assumption) | assumption)
                 obtain ⟨ad216, e216, hx216_0, hx216_1⟩ := at_T93 HR0.out x4_1 p216 q216
                 obtain rfl : ad215 = ad216 := (by injection e216)
                 replace p216 := eq_true p216
                 replace q216 := eq_true q216
                 have p217 : 0 ≤ (x5_3 : Int) := of_decide_eq_true (by first | (with_reducible assumption) | assumption)
                 have q217 : x5_3 < (l0.length : Int) := of_decide_eq_true (by first | (with_reducible assumption) | assumption)
                 obtain ⟨ad217, e217, hx217_0, hx217_1⟩ := at_T93 HR0.out x5_3 p217 q217
                 obtain rfl : ad215 = ad217 := (by injection e217)
                 replace p217 := eq_true p217
                 replace q217 := eq_true q217
                 have p218 : 0 ≤ (x4_1 : Int) := of_decide_eq_true (by first | (with_reducible assumption) | assumption)
                 have q218 : x4_1 < (l0.length : Int) := of_decide_eq_true (by first | (with_reducible assumption) | assumption)
                 obtain ⟨ad218, e218, hx218_0, hx218_1⟩ := at_T93 HR0.out x4_1 p218 q218
                 obtain rfl : ad215 = ad218 := (by injection e218)
                 replace p218 := eq_true p218
                 replace q218 := eq_true q218
                 go_wp2
                 repeat (go_quiet (fail); try go_wp2)
                 go_ret2
                 exact ⟨by first | rfl | (simp; done) | (simp [*]; done), by repeat (first | exact Drawn0.refl _ | apply Drawn0.step)⟩
                ·rw [if_neg c16] at H
                 have c16b0 : (((rd_T93 l0 x5_3).f1).toList == ((rd_T93 l0 x4_1).f1).toList) = false := beq_eq_false_iff_ne.mpr c16
                 have c16b1 : (((rd_T93 l0 x5_3).f1).toList != ((rd_T93 l0 x4_1).f1).toList) = true := bne_iff_ne.mpr c16
                 have H' := Aside0.mk H
                 clear H
                 have p215 : 0 ≤ (x5_3 : Int) := of_decide_eq_true (by first | (with_reducible assumption) | assumption)
                 have q215 : x5_3 < (l0.length : Int) := of_decide_eq_true (by first | (with_reducible assumption) | assumption)
                 obtain ⟨ad215, e215, hx215_0, hx215_1⟩ := at_T93 HR0.out x5_3 p215 q215
                 cases e215
                 replace p215 := eq_true p215
                 replace q215 := eq_true q215
                 have p216 : 0 ≤ (x4_1 : Int) := of_decide_eq_true (by first | (with_reducible assumption) | assumption)
                 have q216 : x4_1 < (l0.length : Int) := of_decide_eq_true (by first | (with_reducible assumption) | assumption)
                 obtain ⟨ad216, e216, hx216_0, hx216_1⟩ := at_T93 HR0.out x4_1 p216 q216
                 obtain rfl : ad215 = ad216 := (by injection e216)
                 replace p216 := eq_true p216
                 replace q216 := eq_true q216
                 have p217 : 0 ≤ (x5_3 : Int) := of_decide_eq_true (by first | (with_reducible assumption) | assumption)
                 have q217 : x5_3 < (l0.length : Int) := of_decide_eq_true (by first | (with_reducible assumption) | assumption)
                 obtain ⟨ad217, e217, hx217_0, hx217_1⟩ := at_T93 HR0.out x5_3 p217 q217
                 obtain rfl : ad215 = ad217 := (by injection e217)
                 replace p217 := eq_true p217
                 replace q217 := eq_true q217
                 have p218 : 0 ≤ (x4_1 : Int) := of_decide_eq_true (by first | (with_reducible assumption) | assumption)
                 have q218 : x4_1 < (l0.length : Int) := of_decide_eq_true (by first | (with_reducible assumption) | assumption)
                 obtain ⟨ad218, e218, hx218_0, hx218_1⟩ := at_T93 HR0.out x4_1 p218 q218
                 obtain rfl : ad215 = ad218 := (by injection e218)
                 replace p218 := eq_true p218
                 replace q218 := eq_true q218
                 go_wp2
                 repeat (go_quiet (fail); try go_wp2)
                 go_roundg k3
                 case measure => have := HK1.out; have := HJ2.out; have := HK3.out; omega
                 case rel => exact ⟨(wrap64 (x5_3 + 1)), (by first | rfl | (simp; done) | (simp [*]; done)), H', ⟨by have := HK1.out; have := HJ2.out; have := HK3.out; omega⟩, by repeat (first | exact Drawn0.refl _ | apply Drawn0.step)⟩
              ·rw [if_neg c14] at H
               exact absurd H (by simp)
             ·rw [if_neg c13] at H
              exact absurd H (by simp)
            ·rw [if_neg c12] at H
             exact absurd H (by simp)
           ·rw [if_neg c11] at H
            exact absurd H (by simp)
          ·rw [if_neg c10] at H
           have c10b0 : decide (x5_3 < x4_1) = false := decide_eq_false c10
           clear c10
           have H' := Aside0.mk H
           clear H
           go_wp2
           repeat (go_quiet (fail); try go_wp2)
           go_roundg k3
           case measure => have := HK1.out; have := HJ2.out; have := HK3.out; omega
           case rel => exact ⟨(wrap64 (x4_1 + 1)), (by first | rfl | (simp; done) | (simp [*]; done)), H', ⟨by have := HK1.out; have := HJ2.out; have := HK3.out; omega⟩, by repeat (first | exact Drawn0.refl _ | apply Drawn0.step)⟩
   ·rw [if_neg c2] at H
    have c2b0 : decide (x4_1 < (l0.length : Int)) = false := decide_eq_false c2
    clear c2
    simp only [Option.some.injEq, Prod.mk.injEq] at H
    obtain ⟨rfl, rfl⟩ := H
    go_wp2
    repeat (go_quiet (fail); try go_wp2)
    go_ret2
    exact ⟨by first | rfl | (simp; done) | (simp [*]; done), by repeat (first | exact Drawn0.refl _ | apply Drawn0.step)⟩
end Go.Proofs.YtkffhgiiejbnaaaGreat.Rf
