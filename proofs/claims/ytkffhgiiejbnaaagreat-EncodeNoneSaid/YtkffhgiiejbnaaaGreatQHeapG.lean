import Derived.Test.YtkffhgiiejbnaaaGreatQHeapF
set_option linter.unusedVariables false
set_option linter.unusedSimpArgs false
namespace Go.Proofs.YtkffhgiiejbnaaaGreat.Hq
open Go.RowKit Go.Proofs.YtkffhgiiejbnaaaGreatW.PrintWords Go.Proofs.YtkffhgiiejbnaaaGreatW.PrintLast Go.Proofs.YtkffhgiiejbnaaaGreatW.PrintMore Go.Proofs.YtkffhgiiejbnaaaGreat.Aid Go.Proofs.YtkffhgiiejbnaaaGreat.Mp Go.Proofs.YtkffhgiiejbnaaaGreat.Hp
set_option linter.unusedVariables false
set_option linter.unusedSimpArgs false
set_option maxHeartbeats 400000
theorem two_new (w : World) (a b : Obj) : ((w.alloc a).alloc b).heap[w.heap.size]? = some a ∧ ((w.alloc a).alloc b).heap[w.heap.size + 1]? = some b := by
  have h : ((w.alloc a).alloc b).heap = (w.heap.push a).push b := rfl
  rw [h]
  exact ⟨by rw [Array.getElem?_push, if_neg (by simp), Array.getElem?_push, if_pos rfl], by rw [Array.getElem?_push, if_pos (by simp)]⟩
theorem blk_set3 {w : World} {g t : Nat} {a b c u v x : Value} (h : w.heap[g]? = some (.cells #[a, b, c] t (0, 0))) : (((w.setCell ⟨g, 0, none⟩ u).setCell ⟨g, 1, none⟩ v).setCell ⟨g, 2, none⟩ x).heap[g]? = some (.cells #[u, v, x] t (0, 0)) :=
  blk_set (blk_set (blk_set h 0 u) 1 v) 2 x
theorem len_any {w : World} {base h : Nat} {v : Value} {n : Int} {l : List (Th Wx)} (H : HpAt w base h v n l) : Calls Tryz.prog 188 #[.pointer (some ⟨h, 0, none⟩)] w fun e w' => e = .returned (.int .i64 (l.length : Int)) ∧ w = w' := by
  obtain ⟨A, c, rfl⟩ := Kd.R_slice H.rows
  have c0 := cell_of (i := 0) H.blk rfl
  clear H
  go_enter Tryz.func188, Tryz.ntmps188
  go_wp2
  go_ret
  exact ⟨rfl, rfl⟩
set_option maxRecDepth 100000 in
theorem peek_no {w : World} {base h : Nat} {v : Value} {n : Int} (H : HpAt w base h v n []) : Calls Tryz.prog 184 #[.pointer (some ⟨h, 0, none⟩)] w fun e w' => e = .returned (.tuple #[.agg #[.int .i64 0, .int .i64 0, .int .i64 0], .int .i64 0, .int .i64 0, .bool false]) ∧ Below w.heap.size w w' := by
  have HH := As.mk H
  clear H
  go_enter Tryz.func184, Tryz.ntmps184
  go_wp2_with (go_at_call 188; refine (len_any (HH.out.below (below_alloc (Below.refl _ _) _))).mono ?_; rintro e w1 ⟨rfl, rfl⟩)
  refine bodyPost_ret (v := .tuple #[.agg #[.int .i64 0, .int .i64 0, .int .i64 0], .int .i64 0, .int .i64 0, .bool false]) ?_ rfl ⟨rfl, ?_⟩
  · simp only [results, show Tryz.f184.results = #[.cell 2 275, .tmp 3, .tmp 4, .tmp 5] from rfl]
    first | (go_simp; done) | (go_simp; rfl)
  · exact below_alloc (below_alloc (Below.refl _ _) _) _
set_option maxRecDepth 100000 in
theorem peek_yes {w : World} {base h : Nat} {v : Value} {n : Int} {l : List (Th Wx)} {x : Th Wx} (H : HpAt w base h v n l) (hx : l[0]? = some x) : Calls Tryz.prog 184 #[.pointer (some ⟨h, 0, none⟩)] w fun e w' => e = .returned (.tuple #[.agg #[.int .i64 x.x.f, .int .i64 x.x.a, .int .i64 x.x.b], .int .i64 x.r, .int .i64 x.p, .bool true]) ∧ Below w.heap.size w w' := by
  have hlt : 0 < l.length := by rcases Nat.eq_zero_or_pos l.length with h | h; rw [List.getElem?_eq_none (by omega)] at hx; cases hx; exact h
  obtain ⟨g, cap, rfl, hb, hglt, hne, hcap, cells, hg⟩ := H.form hlt
  have hltI : (0 : Int) < (l.length : Int) := by omega
  have hltB : ((l.length : Int) == 0) = false := by simpa using (show ¬ (l.length : Int) = 0 by omega)
  have HH := As.mk H
  have HX := As.mk hx
  clear H hx hg
  go_enter Tryz.func184, Tryz.ntmps184
  go_wp2_with (go_at_call 188; refine (len_any (HH.out.below (below_alloc (Below.refl _ _) _))).mono ?_; rintro e w1 ⟨rfl, rfl⟩; have hh := HH.out.below (below_alloc (Below.refl w.heap.size w) (.cells #[.int .i64 0, .int .i64 0, .int .i64 0] 275)); have c0 := cell_of (i := 0) hh.blk rfl; have a0 := (hh.elem HX.out).1 0 _ rfl; have a1 := (hh.elem HX.out).1 1 _ rfl; have a2 := (hh.elem HX.out).1 2 _ rfl; have a3 := (hh.elem HX.out).1 3 _ rfl; have a4 := (hh.elem HX.out).1 4 _ rfl; have a5 := (hh.elem HX.out).1 5 _ rfl; simp only [Nat.zero_mul, Nat.zero_add] at a0 a1 a2 a3 a4 a5; clear hh)
  clear c0 a0 a1 a2 a3 a4 a5
  have HN0 := As.mk (two_new w (.cells #[.int .i64 0, .int .i64 0, .int .i64 0] 275 (0, 0)) (.cells #[.int .i64 x.r, .int .i64 x.p, .int .i64 x.t, .int .i64 x.x.f, .int .i64 x.x.a, .int .i64 x.x.b] 294 (0, 0)))
  have HB := As.mk (below_alloc (below_alloc (Below.refl w.heap.size w) (.cells #[.int .i64 0, .int .i64 0, .int .i64 0] 275)) (.cells #[.int .i64 x.r, .int .i64 x.p, .int .i64 x.t, .int .i64 x.x.f, .int .i64 x.x.a, .int .i64 x.x.b] 294))
  generalize ((w.alloc (.cells #[.int .i64 0, .int .i64 0, .int .i64 0] 275)).alloc (.cells #[.int .i64 x.r, .int .i64 x.p, .int .i64 x.t, .int .i64 x.x.f, .int .i64 x.x.a, .int .i64 x.x.b] 294)) = w2 at HN0 HB ⊢
  refine start_ (n := 12) (S := fun w' => w'.heap[w.heap.size + 1]? = some (.cells #[.int .i64 x.r, .int .i64 x.p, .int .i64 x.t, .int .i64 x.x.f, .int .i64 x.x.a, .int .i64 x.x.b] 294 (0, 0))) (ds := []) #[false, false, false, false, false, false, false, false, false, false, false, false] (by kernel_rfl) rfl rfl (HN0.out.2) (fun hHeld => ?_)
  have HR := As.mk (show w2.drew.heap[w.heap.size]? = some (.cells #[.int .i64 0, .int .i64 0, .int .i64 0] 275 (0, 0)) from HN0.out.1); have HW9 := As.mk (below_drew1 HB.out); clear HN0 HB; generalize w2.drew = w9 at HR HW9 hHeld ⊢; have HH0 := As.mk hHeld; have r0 := cell_of (i := 0) HR.out rfl; have r1 := cell_of (i := 1) HR.out rfl; have r2 := cell_of (i := 2) HR.out rfl; have z0 := blk_frozen HR.out 0; have z1 := blk_frozen HR.out 1; have z2 := blk_frozen HR.out 2
  refine pure_ (i := 0) (N := some 18) (v := ?_) (a' := ?_) #[true, false, false, false, false, false, false, false, false, false, false, false] rfl rfl (by kernel_rfl) (fun _ _ _ h => h) (Or.inl ⟨by rfl, ?_⟩) ?_ ?_
  rotate_left
  · intro w'
    go_simp
    with_reducible rfl
  rotate_left
  · simp only [Act.put, List.setIfInBounds_toArray, List.set_cons_zero, List.set_cons_succ, i64_w, i32_w]
    rfl
  refine pure_ (i := 2) (N := some 20) (v := ?_) (a' := ?_) #[true, false, true, false, false, false, false, false, false, false, false, false] rfl rfl (by kernel_rfl) (fun _ _ _ h => h) (Or.inl ⟨by rfl, ?_⟩) ?_ ?_
  rotate_left
  · intro w'
    go_simp
    with_reducible rfl
  rotate_left
  · simp only [Act.put, List.setIfInBounds_toArray, List.set_cons_zero, List.set_cons_succ, i64_w, i32_w]
    rfl
  refine pure_ (i := 3) (N := some 21) (v := ?_) (a' := ?_) #[true, false, true, true, false, false, false, false, false, false, false, false] rfl rfl (by kernel_rfl) (fun _ _ _ h => h) (Or.inl ⟨by rfl, ?_⟩) ?_ ?_
  rotate_left
  · intro w'
    go_simp
    with_reducible rfl
  rotate_left
  · simp only [Act.put, List.setIfInBounds_toArray, List.set_cons_zero, List.set_cons_succ, i64_w, i32_w]
    rfl
  refine pure_ (i := 5) (N := some 23) (v := ?_) (a' := ?_) #[true, false, true, true, false, true, false, false, false, false, false, false] rfl rfl (by kernel_rfl) (fun _ _ _ h => h) (Or.inl ⟨by rfl, ?_⟩) ?_ ?_
  rotate_left
  · intro w'
    go_simp
    with_reducible rfl
  rotate_left
  · simp only [Act.put, List.setIfInBounds_toArray, List.set_cons_zero, List.set_cons_succ, i64_w, i32_w]
    rfl
  refine pure_ (i := 6) (N := some 24) (v := ?_) (a' := ?_) #[true, false, true, true, false, true, true, false, false, false, false, false] rfl rfl (by kernel_rfl) (fun _ _ _ h => h) (Or.inl ⟨by rfl, ?_⟩) ?_ ?_
  rotate_left
  · intro w'
    go_simp
    with_reducible rfl
  rotate_left
  · simp only [Act.put, List.setIfInBounds_toArray, List.set_cons_zero, List.set_cons_succ, i64_w, i32_w]
    rfl
  refine take_ (i := 1) (N := some 19) (v := ?_) (a' := ?_) #[true, true, true, true, false, true, true, false, false, false, false, false] rfl rfl (by kernel_rfl) (fun _ _ _ h => h) (Or.inl ⟨by rfl, ?_⟩) hHeld ?_ ?_
  rotate_left
  · intro w' hS'
    have hS2 := hS'
    have a0 := cell_of (i := 0) hS' rfl; have a1 := cell_of (i := 1) hS' rfl; have a3 := cell_of (i := 3) hS' rfl; have a4 := cell_of (i := 4) hS' rfl; have a5 := cell_of (i := 5) hS' rfl; go_simp
    with_reducible rfl
  rotate_left
  · simp only [Act.put, List.setIfInBounds_toArray, List.set_cons_zero, List.set_cons_succ, i64_w, i32_w]
    rfl
  refine take_ (i := 4) (N := some 22) (v := ?_) (a' := ?_) #[true, true, true, true, true, true, true, false, false, false, false, false] rfl rfl (by kernel_rfl) (fun _ _ _ h => h) (Or.inl ⟨by rfl, ?_⟩) hHeld ?_ ?_
  rotate_left
  · intro w' hS'
    have hS2 := hS'
    have a0 := cell_of (i := 0) hS' rfl; have a1 := cell_of (i := 1) hS' rfl; have a3 := cell_of (i := 3) hS' rfl; have a4 := cell_of (i := 4) hS' rfl; have a5 := cell_of (i := 5) hS' rfl; go_simp
    with_reducible rfl
  rotate_left
  · simp only [Act.put, List.setIfInBounds_toArray, List.set_cons_zero, List.set_cons_succ, i64_w, i32_w]
    rfl
  refine take_ (i := 7) (N := some 25) (v := ?_) (a' := ?_) #[true, true, true, true, true, true, true, true, false, false, false, false] rfl rfl (by kernel_rfl) (fun _ _ _ h => h) (Or.inl ⟨by rfl, ?_⟩) hHeld ?_ ?_
  rotate_left
  · intro w' hS'
    have hS2 := hS'
    have a0 := cell_of (i := 0) hS' rfl; have a1 := cell_of (i := 1) hS' rfl; have a3 := cell_of (i := 3) hS' rfl; have a4 := cell_of (i := 4) hS' rfl; have a5 := cell_of (i := 5) hS' rfl; go_simp
    with_reducible rfl
  rotate_left
  · simp only [Act.put, List.setIfInBounds_toArray, List.set_cons_zero, List.set_cons_succ, i64_w, i32_w]
    rfl
  refine one_ (i := 8) (N := none) #[true, true, true, true, true, true, true, true, true, false, false, false] rfl rfl (by kernel_rfl) (by decide) (fun K hK => ?_)
  refine skip_ (w1 := ((w9.setCell ⟨w.heap.size, 0, none⟩ (.int .i64 x.x.f)).setCell ⟨w.heap.size, 1, none⟩ (.int .i64 x.x.a)).setCell ⟨w.heap.size, 2, none⟩ (.int .i64 x.x.b)) (by rfl) rfl ?_ ?_
  · first | (go_simp; done) | (go_simp; rfl)
  refine hK.out _ _ ((Below.heap_setCell _ ⟨w.heap.size, 2, none⟩ _ _ (by simp)).trans ((Below.heap_setCell _ ⟨w.heap.size, 1, none⟩ _ _ (by simp)).trans ((Below.heap_setCell _ ⟨w.heap.size, 0, none⟩ _ _ (by simp)).trans HH0.out))) (fun hHeld => ?_)
  clear hK K hHeld
  refine pure_ (i := 9) (N := some 3) (v := ?_) (a' := ?_) #[true, true, true, true, true, true, true, true, true, true, false, false] rfl rfl (by kernel_rfl) (fun _ _ _ h => h) (Or.inl ⟨by rfl, ?_⟩) ?_ ?_
  rotate_left
  · intro w'
    go_simp
    with_reducible rfl
  rotate_left
  · simp only [Act.put, List.setIfInBounds_toArray, List.set_cons_zero, List.set_cons_succ, i64_w, i32_w]
    rfl
  refine pure_ (i := 10) (N := some 4) (v := ?_) (a' := ?_) #[true, true, true, true, true, true, true, true, true, true, true, false] rfl rfl (by kernel_rfl) (fun _ _ _ h => h) (Or.inl ⟨by rfl, ?_⟩) ?_ ?_
  rotate_left
  · intro w'
    go_simp
    with_reducible rfl
  rotate_left
  · simp only [Act.put, List.setIfInBounds_toArray, List.set_cons_zero, List.set_cons_succ, i64_w, i32_w]
    rfl
  refine pure_ (i := 11) (N := some 5) (v := ?_) (a' := ?_) #[true, true, true, true, true, true, true, true, true, true, true, true] rfl rfl (by kernel_rfl) (fun _ _ _ h => h) (Or.inl ⟨by rfl, ?_⟩) ?_ ?_
  rotate_left
  · intro w'
    go_simp
    with_reducible rfl
  rotate_left
  · simp only [Act.put, List.setIfInBounds_toArray, List.set_cons_zero, List.set_cons_succ, i64_w, i32_w]
    rfl
  refine done_ (by kernel_rfl) ?_
  clear r0 r1 r2 z0 z1 z2 HH0
  have g0 := blk_set3 (u := .int .i64 x.x.f) (v := .int .i64 x.x.a) (x := .int .i64 x.x.b) HR.out
  have HBF := As.mk (((HW9.out.setCell (p := ⟨w.heap.size, 0, none⟩) (Nat.le_refl _) (.int .i64 x.x.f)).setCell (p := ⟨w.heap.size, 1, none⟩) (Nat.le_refl _) (.int .i64 x.x.a)).setCell (p := ⟨w.heap.size, 2, none⟩) (Nat.le_refl _) (.int .i64 x.x.b))
  clear HR HW9
  generalize ((w9.setCell ⟨w.heap.size, 0, none⟩ (.int .i64 x.x.f)).setCell ⟨w.heap.size, 1, none⟩ (.int .i64 x.x.a)).setCell ⟨w.heap.size, 2, none⟩ (.int .i64 x.x.b) = w3 at *
  have r0 := cell_of (i := 0) g0 rfl
  have r1 := cell_of (i := 1) g0 rfl
  have r2 := cell_of (i := 2) g0 rfl
  clear g0
  go_wp2_with fail
  refine bodyPost_ret (v := .tuple #[.agg #[.int .i64 x.x.f, .int .i64 x.x.a, .int .i64 x.x.b], .int .i64 x.r, .int .i64 x.p, .bool true]) ?_ rfl ⟨rfl, HBF.out⟩
  simp only [results, show Tryz.f184.results = #[.cell 2 275, .tmp 3, .tmp 4, .tmp 5] from rfl]
  first | (go_simp; done) | (go_simp; rfl)
end Go.Proofs.YtkffhgiiejbnaaaGreat.Hq
