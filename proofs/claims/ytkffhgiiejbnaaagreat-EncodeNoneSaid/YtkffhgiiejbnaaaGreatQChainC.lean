import Derived.Test.YtkffhgiiejbnaaaGreatQChainA
set_option linter.unusedVariables false
set_option linter.unusedSimpArgs false
set_option linter.unnecessarySimpa false
namespace Go.Proofs.YtkffhgiiejbnaaaGreat.Ch
open Go.RowKit Go.Proofs.YtkffhgiiejbnaaaGreatW.PrintWords Go.Proofs.YtkffhgiiejbnaaaGreatW.PrintLast Go.Proofs.YtkffhgiiejbnaaaGreatW.PrintMore Go.Proofs.YtkffhgiiejbnaaaGreat.Aid Go.Proofs.YtkffhgiiejbnaaaGreat.Mp Go.Proofs.YtkffhgiiejbnaaaGreat.Hp Go.Proofs.YtkffhgiiejbnaaaGreat.Hq Go.Proofs.YtkffhgiiejbnaaaGreat.Tk
set_option linter.unusedVariables false
set_option linter.unusedSimpArgs false
set_option maxHeartbeats 400000
def askF (E : List Ent) (lim : Int) (L : List Nd) (i : Int) : Option (Int × Int × Int) :=
  if i = -1 then none else match L[i.toNat]? with
  | some n => if n.next = -1 then none else match L[n.next.toNat]? with
    | some m => match pairP E n.id m.id with
      | some r => if (r : Int) < lim then some ((r : Int), n.id, m.id) else none
      | none => none
    | none => none
  | none => none
def AskH (o : Option (Int × Int × Int)) (i : Int) (H H' : List (Th Wx)) : Prop := match o with
  | none => H' = H
  | some (r, a, b) => ∃ t, H' = ⟨r, i, t, ⟨i, a, b⟩⟩ :: H
theorem HpOf.more {W : World} {base h B : Nat} {l : List (Th Wx)} (H : HpOf W base h B l) : HpOf W base h (B + 1) l := by
  obtain ⟨v, n, l', h1, h2, h3, h4⟩ := H.out
  exact ⟨⟨v, n, l', h1, h2, by omega, h4⟩⟩
structure Asked (w w' : World) (base c : Nat) (v : Value) (pt q : Nat) (lim st : Int) (L : List Nd) (B : Nat) (H : List (Th Wx)) (o : Option (Int × Int × Int)) (i : Int) : Prop where
  mk :: (link : LkAt w' base c v pt q lim st L) (below : Below base w w') (queue : ∃ H', AskH o i H H' ∧ HpOf w' base q (B + 1) H')
theorem HpOf.qt {W : World} {base h B : Nat} {l : List (Th Wx)} (H : HpOf W base h B l) : ∃ cs, W.heap[h]? = some (.cells cs 288 (0, 0)) := by
  obtain ⟨v, n, l', h1, _⟩ := H.out
  exact ⟨_, h1.blk⟩
theorem ask_last {E : List Ent} {lim : Int} {L : List Nd} {i : Nat} {n : Nd} (hi : L[i]? = some n) (hn : n.next = -1) : askF E lim L (i : Int) = none := by
  unfold askF; rw [if_neg (by omega), Int.toNat_natCast, hi]; simp only; rw [if_pos hn]
theorem ask_two {E : List Ent} {lim : Int} {L : List Nd} {i j : Nat} {n m : Nd} (hi : L[i]? = some n) (hn : n.next = (j : Int)) (hj : L[j]? = some m) : askF E lim L (i : Int) = (match pairP E n.id m.id with | some r => if (r : Int) < lim then some ((r : Int), n.id, m.id) else none | none => none) := by
  unfold askF; rw [if_neg (by omega), Int.toNat_natCast, hi]; simp only; rw [if_neg (by omega), hn, Int.toNat_natCast, hj]
theorem asks_end {w : World} {base c : Nat} {v : Value} {pt q : Nat} {lim st : Int} {L : List Nd} {B : Nat} {H : List (Th Wx)} {E : List Ent} (HL : LkAt w base c v pt q lim st L) (HQ : HpOf w base q B H) :
    Calls Tryz.prog 178 #[.pointer (some ⟨c, 0, none⟩), .int .i64 (-1)] w fun e w' => e = .returned (.tuple #[]) ∧ Asked w w' base c v pt q lim st L B H (askF E lim L (-1)) (-1) := by
  have HL := As.mk HL
  have HQ := As.mk HQ
  rename_i x1 x2
  clear x1 x2
  go_enter Tryz.func178, Tryz.ntmps178
  go_wp2
  refine bodyPost_ret (results_none rfl _ _ _) rfl ?_
  exact ⟨rfl, HL.out, Below.refl _ _, H, rfl, HpOf.more HQ.out⟩
theorem asks_last {w : World} {base c : Nat} {v : Value} {pt q : Nat} {lim st : Int} {L : List Nd} {B : Nat} {H : List (Th Wx)} {E : List Ent} (HL : LkAt w base c v pt q lim st L) (HQ : HpOf w base q B H) (i : Nat) {n : Nd} (hi : L[i]? = some n) (hn : n.next = -1) :
    Calls Tryz.prog 178 #[.pointer (some ⟨c, 0, none⟩), .int .i64 (i : Int)] w fun e w' => e = .returned (.tuple #[]) ∧ Asked w w' base c v pt q lim st L B H (askF E lim L (i : Int)) (i : Int) := by
  have hlt : i < L.length := by rcases Nat.lt_or_ge i L.length with h | h; exact h; rw [List.getElem?_eq_none h] at hi; cases hi
  obtain ⟨g, cap, rfl, hb, hgl, hne, hnq, hcap, cells, hg⟩ := HL.form (by omega)
  have HA := As.mk (ask_last (E := E) (lim := lim) hi hn)
  have a2 := (HL.elem hi).1 2 _ rfl
  rw [hn] at a2
  have c1 := HL.c.2.1
  have HL := As.mk HL
  have HQ := As.mk HQ
  have hiI : (i : Int) < (L.length : Int) := by omega
  have hi0 : (0 : Int) ≤ (i : Int) := by omega
  have hi1 : ((i : Int) == -1) = false := by simpa using (show ¬ (i : Int) = -1 by omega)
  rename_i x1 x2
  clear x1 x2 hi hn hg hlt
  go_enter Tryz.func178, Tryz.ntmps178
  go_wp2
  refine bodyPost_ret (results_none rfl _ _ _) rfl ?_
  exact ⟨rfl, HL.out, Below.refl _ _, H, by rw [HA.out]; rfl, HpOf.more HQ.out⟩
end Go.Proofs.YtkffhgiiejbnaaaGreat.Ch
namespace Go.Proofs.YtkffhgiiejbnaaaGreat.Ch
open Go.RowKit Go.Proofs.YtkffhgiiejbnaaaGreatW.PrintWords Go.Proofs.YtkffhgiiejbnaaaGreatW.PrintLast Go.Proofs.YtkffhgiiejbnaaaGreatW.PrintMore Go.Proofs.YtkffhgiiejbnaaaGreat.Aid Go.Proofs.YtkffhgiiejbnaaaGreat.Mp Go.Proofs.YtkffhgiiejbnaaaGreat.Hp Go.Proofs.YtkffhgiiejbnaaaGreat.Hq Go.Proofs.YtkffhgiiejbnaaaGreat.Tk
set_option linter.unusedVariables false
set_option linter.unusedSimpArgs false
set_option maxHeartbeats 400000
set_option maxRecDepth 100000 in
theorem asks_two {w : World} {base c : Nat} {v : Value} {pt q : Nat} {lim st : Int} {L : List Nd} {B : Nat} {H : List (Th Wx)} {E : List Ent} (HL : LkAt w base c v pt q lim st L) (HQ : HpOf w base q B H) (HT : TabAt w pt E) (i j : Nat) {n m : Nd} (hi : L[i]? = some n) (hn : n.next = (j : Int)) (hj : L[j]? = some m) (hHl : H.length ≤ 900000000) (hB : B ≤ 900000000) :
    Calls Tryz.prog 178 #[.pointer (some ⟨c, 0, none⟩), .int .i64 (i : Int)] w fun e w' => e = .returned (.tuple #[]) ∧ Asked w w' base c v pt q lim st L B H (askF E lim L (i : Int)) (i : Int) := by
  have hlt : i < L.length := by rcases Nat.lt_or_ge i L.length with h | h; exact h; rw [List.getElem?_eq_none h] at hi; cases hi
  have hltj : j < L.length := by rcases Nat.lt_or_ge j L.length with h | h; exact h; rw [List.getElem?_eq_none h] at hj; cases hj
  obtain ⟨g, cap, rfl, hb, hgl, hne, hnq, hcap, cells, hg⟩ := HL.form (by omega)
  have HA := As.mk (ask_two (E := E) (lim := lim) hi hn hj)
  have HX := As.mk hi
  have HY := As.mk hj
  have c1 := HL.c.2.1
  have a2 := (HL.elem hi).1 2 _ rfl
  rw [hn] at a2
  have HNX := As.mk hn
  have HL := As.mk HL
  have HQ := As.mk HQ
  have HT := As.mk HT
  have hiI : (i : Int) < (L.length : Int) := by omega
  have hi0 : (0 : Int) ≤ (i : Int) := by omega
  have hjI : (j : Int) < (L.length : Int) := by omega
  have hj0 : (0 : Int) ≤ (j : Int) := by omega
  have hi1 : ((i : Int) == -1) = false := by simpa using (show ¬ (i : Int) = -1 by omega)
  have hj1 : ((j : Int) == -1) = false := by simpa using (show ¬ (j : Int) = -1 by omega)
  have HBD := As.mk (And.intro hHl hB)
  rename_i x1 x2 x3
  clear x1 x2 x3 hi hn hj hg hlt hltj hHl hB
  obtain ⟨nid, na, nn⟩ := n
  obtain ⟨mid, ma, mn⟩ := m
  simp only at HA HNX a2
  have hNX := HNX.out
  subst hNX
  clear HNX
  go_enter Tryz.func178, Tryz.ntmps178
  go_wp2
  clear c1 a2
  refine start_ (n := 26) (S := fun w' => Below w.heap.size w w') (ds := [25]) #[false, false, false, false, false, false, false, false, false, false, false, false, false, false, false, false, false, false, false, false, false, false, false, false, false, false] (by kernel_rfl) rfl rfl (below_drew1 (Below.refl _ _)) (fun hHeld => ?_)
  have HW9 := As.mk hHeld; clear hHeld; generalize w.drew = w9 at HW9 ⊢; have hHeld := HW9.out
  refine pure_ (i := 0) (N := some 20) (v := ?_) (a' := ?_) #[true, false, false, false, false, false, false, false, false, false, false, false, false, false, false, false, false, false, false, false, false, false, false, false, false, false] rfl rfl (by kernel_rfl) (fun _ _ _ h => h) (Or.inl ⟨by rfl, ?_⟩) ?_ ?_
  rotate_left
  · intro w'
    go_simp
    with_reducible rfl
  rotate_left
  · simp only [Act.put, List.setIfInBounds_toArray, List.set_cons_zero, List.set_cons_succ, i64_w, i32_w]
    rfl
  refine pure_ (i := 1) (N := some 21) (v := ?_) (a' := ?_) #[true, true, false, false, false, false, false, false, false, false, false, false, false, false, false, false, false, false, false, false, false, false, false, false, false, false] rfl rfl (by kernel_rfl) (fun _ _ _ h => h) (Or.inl ⟨by rfl, ?_⟩) ?_ ?_
  rotate_left
  · intro w'
    go_simp
    with_reducible rfl
  rotate_left
  · simp only [Act.put, List.setIfInBounds_toArray, List.set_cons_zero, List.set_cons_succ, i64_w, i32_w]
    rfl
  refine pure_ (i := 2) (N := some 22) (v := ?_) (a' := ?_) #[true, true, true, false, false, false, false, false, false, false, false, false, false, false, false, false, false, false, false, false, false, false, false, false, false, false] rfl rfl (by kernel_rfl) (fun _ _ _ h => h) (Or.inl ⟨by rfl, ?_⟩) ?_ ?_
  rotate_left
  · intro w'
    go_simp
    with_reducible rfl
  rotate_left
  · simp only [Act.put, List.setIfInBounds_toArray, List.set_cons_zero, List.set_cons_succ, i64_w, i32_w]
    rfl
  refine pure_ (i := 4) (N := some 24) (v := ?_) (a' := ?_) #[true, true, true, false, true, false, false, false, false, false, false, false, false, false, false, false, false, false, false, false, false, false, false, false, false, false] rfl rfl (by kernel_rfl) (fun _ _ _ h => h) (Or.inl ⟨by rfl, ?_⟩) ?_ ?_
  rotate_left
  · intro w'
    go_simp
    with_reducible rfl
  rotate_left
  · simp only [Act.put, List.setIfInBounds_toArray, List.set_cons_zero, List.set_cons_succ, i64_w, i32_w]
    rfl
  refine pure_ (i := 8) (N := some 28) (v := ?_) (a' := ?_) #[true, true, true, false, true, false, false, false, true, false, false, false, false, false, false, false, false, false, false, false, false, false, false, false, false, false] rfl rfl (by kernel_rfl) (fun _ _ _ h => h) (Or.inl ⟨by rfl, ?_⟩) ?_ ?_
  rotate_left
  · intro w'
    go_simp
    with_reducible rfl
  rotate_left
  · simp only [Act.put, List.setIfInBounds_toArray, List.set_cons_zero, List.set_cons_succ, i64_w, i32_w]
    rfl
  refine pure_ (i := 9) (N := some 29) (v := ?_) (a' := ?_) #[true, true, true, false, true, false, false, false, true, true, false, false, false, false, false, false, false, false, false, false, false, false, false, false, false, false] rfl rfl (by kernel_rfl) (fun _ _ _ h => h) (Or.inl ⟨by rfl, ?_⟩) ?_ ?_
  rotate_left
  · intro w'
    go_simp
    with_reducible rfl
  rotate_left
  · simp only [Act.put, List.setIfInBounds_toArray, List.set_cons_zero, List.set_cons_succ, i64_w, i32_w]
    rfl
  refine pure_ (i := 10) (N := some 30) (v := ?_) (a' := ?_) #[true, true, true, false, true, false, false, false, true, true, true, false, false, false, false, false, false, false, false, false, false, false, false, false, false, false] rfl rfl (by kernel_rfl) (fun _ _ _ h => h) (Or.inl ⟨by rfl, ?_⟩) ?_ ?_
  rotate_left
  · intro w'
    go_simp
    with_reducible rfl
  rotate_left
  · simp only [Act.put, List.setIfInBounds_toArray, List.set_cons_zero, List.set_cons_succ, i64_w, i32_w]
    rfl
  refine pure_ (i := 12) (N := some 32) (v := ?_) (a' := ?_) #[true, true, true, false, true, false, false, false, true, true, true, false, true, false, false, false, false, false, false, false, false, false, false, false, false, false] rfl rfl (by kernel_rfl) (fun _ _ _ h => h) (Or.inl ⟨by rfl, ?_⟩) ?_ ?_
  rotate_left
  · intro w'
    go_simp
    with_reducible rfl
  rotate_left
  · simp only [Act.put, List.setIfInBounds_toArray, List.set_cons_zero, List.set_cons_succ, i64_w, i32_w]
    rfl
  refine pure_ (i := 13) (N := some 33) (v := ?_) (a' := ?_) #[true, true, true, false, true, false, false, false, true, true, true, false, true, true, false, false, false, false, false, false, false, false, false, false, false, false] rfl rfl (by kernel_rfl) (fun _ _ _ h => h) (Or.inl ⟨by rfl, ?_⟩) ?_ ?_
  rotate_left
  · intro w'
    go_simp
    with_reducible rfl
  rotate_left
  · simp only [Act.put, List.setIfInBounds_toArray, List.set_cons_zero, List.set_cons_succ, i64_w, i32_w]
    rfl
  refine pure_ (i := 14) (N := some 34) (v := ?_) (a' := ?_) #[true, true, true, false, true, false, false, false, true, true, true, false, true, true, true, false, false, false, false, false, false, false, false, false, false, false] rfl rfl (by kernel_rfl) (fun _ _ _ h => h) (Or.inl ⟨by rfl, ?_⟩) ?_ ?_
  rotate_left
  · intro w'
    go_simp
    with_reducible rfl
  rotate_left
  · simp only [Act.put, List.setIfInBounds_toArray, List.set_cons_zero, List.set_cons_succ, i64_w, i32_w]
    rfl
  refine pure_ (i := 16) (N := some 36) (v := ?_) (a' := ?_) #[true, true, true, false, true, false, false, false, true, true, true, false, true, true, true, false, true, false, false, false, false, false, false, false, false, false] rfl rfl (by kernel_rfl) (fun _ _ _ h => h) (Or.inl ⟨by rfl, ?_⟩) ?_ ?_
  rotate_left
  · intro w'
    go_simp
    with_reducible rfl
  rotate_left
  · simp only [Act.put, List.setIfInBounds_toArray, List.set_cons_zero, List.set_cons_succ, i64_w, i32_w]
    rfl
  refine take_ (i := 3) (N := some 23) (v := ?_) (a' := ?_) #[true, true, true, true, true, false, false, false, true, true, true, false, true, true, true, false, true, false, false, false, false, false, false, false, false, false] rfl rfl (by kernel_rfl) (fun _ _ _ h => h) (Or.inl ⟨by rfl, ?_⟩) hHeld ?_ ?_
  rotate_left
  · intro w' hS'
    have s0 := hS'
    have hh := HL.out.below hS'; have c1 := hh.c.2.1; have a0 := (hh.elem HX.out).1 0 _ rfl; have a2 := (hh.elem HX.out).1 2 _ rfl; have b0 := (hh.elem HY.out).1 0 _ rfl; simp only [Nat.add_zero] at a0 b0 a2; clear hh; go_simp
    with_reducible rfl
  rotate_left
  · simp only [Act.put, List.setIfInBounds_toArray, List.set_cons_zero, List.set_cons_succ, i64_w, i32_w]
    rfl
  refine pure_ (i := 5) (N := some 25) (v := ?_) (a' := ?_) #[true, true, true, true, true, true, false, false, true, true, true, false, true, true, true, false, true, false, false, false, false, false, false, false, false, false] rfl rfl (by kernel_rfl) (fun _ _ _ h => h) (Or.inl ⟨by rfl, ?_⟩) ?_ ?_
  rotate_left
  · intro w'
    go_simp
    with_reducible rfl
  rotate_left
  · simp only [Act.put, List.setIfInBounds_toArray, List.set_cons_zero, List.set_cons_succ, i64_w, i32_w]
    rfl
  refine pure_ (i := 6) (N := some 26) (v := ?_) (a' := ?_) #[true, true, true, true, true, true, true, false, true, true, true, false, true, true, true, false, true, false, false, false, false, false, false, false, false, false] rfl rfl (by kernel_rfl) (fun _ _ _ h => h) (Or.inl ⟨by rfl, ?_⟩) ?_ ?_
  rotate_left
  · intro w'
    go_simp
    with_reducible rfl
  rotate_left
  · simp only [Act.put, List.setIfInBounds_toArray, List.set_cons_zero, List.set_cons_succ, i64_w, i32_w]
    rfl
  refine take_ (i := 7) (N := some 27) (v := ?_) (a' := ?_) #[true, true, true, true, true, true, true, true, true, true, true, false, true, true, true, false, true, false, false, false, false, false, false, false, false, false] rfl rfl (by kernel_rfl) (fun _ _ _ h => h) (Or.inl ⟨by rfl, ?_⟩) hHeld ?_ ?_
  rotate_left
  · intro w' hS'
    have s0 := hS'
    have hh := HL.out.below hS'; have c1 := hh.c.2.1; have a0 := (hh.elem HX.out).1 0 _ rfl; have a2 := (hh.elem HX.out).1 2 _ rfl; have b0 := (hh.elem HY.out).1 0 _ rfl; simp only [Nat.add_zero] at a0 b0 a2; clear hh; go_simp
    with_reducible rfl
  rotate_left
  · simp only [Act.put, List.setIfInBounds_toArray, List.set_cons_zero, List.set_cons_succ, i64_w, i32_w]
    rfl
  refine take_ (i := 11) (N := some 31) (v := ?_) (a' := ?_) #[true, true, true, true, true, true, true, true, true, true, true, true, true, true, true, false, true, false, false, false, false, false, false, false, false, false] rfl rfl (by kernel_rfl) (fun _ _ _ h => h) (Or.inl ⟨by rfl, ?_⟩) hHeld ?_ ?_
  rotate_left
  · intro w' hS'
    have s0 := hS'
    have hh := HL.out.below hS'; have c1 := hh.c.2.1; have a0 := (hh.elem HX.out).1 0 _ rfl; have a2 := (hh.elem HX.out).1 2 _ rfl; have b0 := (hh.elem HY.out).1 0 _ rfl; simp only [Nat.add_zero] at a0 b0 a2; clear hh; go_simp
    with_reducible rfl
  rotate_left
  · simp only [Act.put, List.setIfInBounds_toArray, List.set_cons_zero, List.set_cons_succ, i64_w, i32_w]
    rfl
  refine take_ (i := 15) (N := some 35) (v := ?_) (a' := ?_) #[true, true, true, true, true, true, true, true, true, true, true, true, true, true, true, true, true, false, false, false, false, false, false, false, false, false] rfl rfl (by kernel_rfl) (fun _ _ _ h => h) (Or.inl ⟨by rfl, ?_⟩) hHeld ?_ ?_
  rotate_left
  · intro w' hS'
    have s0 := hS'
    have hh := HL.out.below hS'; have c1 := hh.c.2.1; have a0 := (hh.elem HX.out).1 0 _ rfl; have a2 := (hh.elem HX.out).1 2 _ rfl; have b0 := (hh.elem HY.out).1 0 _ rfl; simp only [Nat.add_zero] at a0 b0 a2; clear hh; go_simp
    with_reducible rfl
  rotate_left
  · simp only [Act.put, List.setIfInBounds_toArray, List.set_cons_zero, List.set_cons_succ, i64_w, i32_w]
    rfl
  refine pure_ (i := 17) (N := some 37) (v := ?_) (a' := ?_) #[true, true, true, true, true, true, true, true, true, true, true, true, true, true, true, true, true, true, false, false, false, false, false, false, false, false] rfl rfl (by kernel_rfl) (fun _ _ _ h => h) (Or.inl ⟨by rfl, ?_⟩) ?_ ?_
  rotate_left
  · intro w'
    go_simp
    with_reducible rfl
  rotate_left
  · simp only [Act.put, List.setIfInBounds_toArray, List.set_cons_zero, List.set_cons_succ, i64_w, i32_w]
    rfl
  refine pure_ (i := 18) (N := some 38) (v := ?_) (a' := ?_) #[true, true, true, true, true, true, true, true, true, true, true, true, true, true, true, true, true, true, true, false, false, false, false, false, false, false] rfl rfl (by kernel_rfl) (fun _ _ _ h => h) (Or.inl ⟨by rfl, ?_⟩) ?_ ?_
  rotate_left
  · intro w'
    go_simp
    with_reducible rfl
  rotate_left
  · simp only [Act.put, List.setIfInBounds_toArray, List.set_cons_zero, List.set_cons_succ, i64_w, i32_w]
    rfl
  refine take_ (i := 19) (N := some 39) (v := ?_) (a' := ?_) #[true, true, true, true, true, true, true, true, true, true, true, true, true, true, true, true, true, true, true, true, false, false, false, false, false, false] rfl rfl (by kernel_rfl) (fun _ _ _ h => h) (Or.inl ⟨by rfl, ?_⟩) hHeld ?_ ?_
  rotate_left
  · intro w' hS'
    have s0 := hS'
    have hh := HL.out.below hS'; have c1 := hh.c.2.1; have a0 := (hh.elem HX.out).1 0 _ rfl; have a2 := (hh.elem HX.out).1 2 _ rfl; have b0 := (hh.elem HY.out).1 0 _ rfl; simp only [Nat.add_zero] at a0 b0 a2; clear hh; go_simp
    with_reducible rfl
  rotate_left
  · simp only [Act.put, List.setIfInBounds_toArray, List.set_cons_zero, List.set_cons_succ, i64_w, i32_w]
    rfl
  refine pure_ (i := 20) (N := some 40) (v := ?_) (a' := ?_) #[true, true, true, true, true, true, true, true, true, true, true, true, true, true, true, true, true, true, true, true, true, false, false, false, false, false] rfl rfl (by kernel_rfl) (fun _ _ _ h => h) (Or.inl ⟨by rfl, ?_⟩) ?_ ?_
  rotate_left
  · intro w'
    go_simp
    with_reducible rfl
  rotate_left
  · simp only [Act.put, List.setIfInBounds_toArray, List.set_cons_zero, List.set_cons_succ, i64_w, i32_w]
    rfl
  refine pure_ (i := 21) (N := some 41) (v := ?_) (a' := ?_) #[true, true, true, true, true, true, true, true, true, true, true, true, true, true, true, true, true, true, true, true, true, true, false, false, false, false] rfl rfl (by kernel_rfl) (fun _ _ _ h => h) (Or.inl ⟨by rfl, ?_⟩) ?_ ?_
  rotate_left
  · intro w'
    go_simp
    with_reducible rfl
  rotate_left
  · simp only [Act.put, List.setIfInBounds_toArray, List.set_cons_zero, List.set_cons_succ, i64_w, i32_w]
    rfl
  refine take_ (i := 22) (N := some 42) (v := ?_) (a' := ?_) #[true, true, true, true, true, true, true, true, true, true, true, true, true, true, true, true, true, true, true, true, true, true, true, false, false, false] rfl rfl (by kernel_rfl) (fun _ _ _ h => h) (Or.inl ⟨by rfl, ?_⟩) hHeld ?_ ?_
  rotate_left
  · intro w' hS'
    have s0 := hS'
    have hh := HL.out.below hS'; have c1 := hh.c.2.1; have a0 := (hh.elem HX.out).1 0 _ rfl; have a2 := (hh.elem HX.out).1 2 _ rfl; have b0 := (hh.elem HY.out).1 0 _ rfl; simp only [Nat.add_zero] at a0 b0 a2; clear hh; go_simp
    with_reducible rfl
  rotate_left
  · simp only [Act.put, List.setIfInBounds_toArray, List.set_cons_zero, List.set_cons_succ, i64_w, i32_w]
    rfl
  refine pure_ (i := 23) (N := some 43) (v := ?_) (a' := ?_) #[true, true, true, true, true, true, true, true, true, true, true, true, true, true, true, true, true, true, true, true, true, true, true, true, false, false] rfl rfl (by kernel_rfl) (fun _ _ _ h => h) (Or.inl ⟨by rfl, ?_⟩) ?_ ?_
  rotate_left
  · intro w'
    go_simp
    with_reducible rfl
  rotate_left
  · simp only [Act.put, List.setIfInBounds_toArray, List.set_cons_zero, List.set_cons_succ, i64_w, i32_w]
    rfl
  refine one_ (i := 24) (N := some 4) #[true, true, true, true, true, true, true, true, true, true, true, true, true, true, true, true, true, true, true, true, true, true, true, true, true, false] rfl rfl (by kernel_rfl) (by decide) (fun K hK => ?_)
  refine value_ (w1 := w9.alloc (.cells #[.int .i64 0, .int .i64 0] 91)) (v := .pointer (some ⟨w9.heap.size, 0, none⟩)) (by rfl) rfl ?_ ?_
  · first | (go_simp; done) | (go_simp; rfl)
  refine hK.out _ _ (below_alloc HW9.out _) (fun hHeld => ?_)
  clear hK K
  refine norm_ (a' := ?_) ?_ ?_
  rotate_left
  · (simp only [Act.put, List.setIfInBounds_toArray, List.set_cons_zero, List.set_cons_succ]; rfl)
  refine last_ (i := 25) (N := none) #[true, true, true, true, true, true, true, true, true, true, true, true, true, true, true, true, true, true, true, true, true, true, true, true, true, true] rfl rfl (by kernel_rfl) (by decide) (fun K hK => ?_)
  refine skip_ (w1 := w9.alloc (.cells #[.int .i64 nid, .int .i64 mid] 91)) (by rfl) rfl ?_ ?_
  · first | (go_simp; done) | (go_simp; rfl)
  refine hK.out _ _ ?_
  clear hK K
  refine done_ (by kernel_rfl) ?_
  have hba := below_alloc (Below.refl w9.heap.size w9) (.cells #[.int .i64 nid, .int .i64 mid] 91)
  have HB2 := As.mk (bt_ HW9.out hba)
  have HM2 := As.mk (Go.MapKept.heap_alloc w9 (.cells #[.int .i64 nid, .int .i64 mid] 91)).1
  clear hba HW9 hHeld
  generalize w9.alloc (.cells #[.int .i64 nid, .int .i64 mid] 91) = w2 at HB2 HM2 ⊢
  go_wp2
  cases hp : pairP E nid mid with
  | none =>
    rw [hp] at HA
    have HPP := As.mk hp
    clear hp
    refine start_ (n := 14) (S := fun w' => Below w2.heap.size w2 w') (ds := []) #[false, false, false, false, false, false, false, false, false, false, false, false, false, false] (by kernel_rfl) rfl rfl (below_drew1 (Below.refl _ _)) (fun hHeld => ?_)
    have HW3 := As.mk hHeld; clear hHeld; generalize w2.drew = w3 at HW3 ⊢; have hHeld := HW3.out
    refine pure_ (i := 0) (N := some 45) (v := ?_) (a' := ?_) #[true, false, false, false, false, false, false, false, false, false, false, false, false, false] rfl rfl (by kernel_rfl) (fun _ _ _ h => h) (Or.inl ⟨by rfl, ?_⟩) ?_ ?_
    rotate_left
    · intro w'
      go_simp
      with_reducible rfl
    rotate_left
    · simp only [Act.put, List.setIfInBounds_toArray, List.set_cons_zero, List.set_cons_succ, i64_w, i32_w]
      rfl
    refine pure_ (i := 1) (N := some 46) (v := ?_) (a' := ?_) #[true, true, false, false, false, false, false, false, false, false, false, false, false, false] rfl rfl (by kernel_rfl) (fun _ _ _ h => h) (Or.inl ⟨by rfl, ?_⟩) ?_ ?_
    rotate_left
    · intro w'
      go_simp
      with_reducible rfl
    rotate_left
    · simp only [Act.put, List.setIfInBounds_toArray, List.set_cons_zero, List.set_cons_succ, i64_w, i32_w]
      rfl
    refine pure_ (i := 2) (N := some 47) (v := ?_) (a' := ?_) #[true, true, true, false, false, false, false, false, false, false, false, false, false, false] rfl rfl (by kernel_rfl) (fun _ _ _ h => h) (Or.inl ⟨by rfl, ?_⟩) ?_ ?_
    rotate_left
    · intro w'
      go_simp
      with_reducible rfl
    rotate_left
    · simp only [Act.put, List.setIfInBounds_toArray, List.set_cons_zero, List.set_cons_succ, i64_w, i32_w]
      rfl
    refine pure_ (i := 4) (N := some 49) (v := ?_) (a' := ?_) #[true, true, true, false, true, false, false, false, false, false, false, false, false, false] rfl rfl (by kernel_rfl) (fun _ _ _ h => h) (Or.inl ⟨by rfl, ?_⟩) ?_ ?_
    rotate_left
    · intro w'
      go_simp
      with_reducible rfl
    rotate_left
    · simp only [Act.put, List.setIfInBounds_toArray, List.set_cons_zero, List.set_cons_succ, i64_w, i32_w]
      rfl
    refine pure_ (i := 6) (N := some 51) (v := ?_) (a' := ?_) #[true, true, true, false, true, false, true, false, false, false, false, false, false, false] rfl rfl (by kernel_rfl) (fun _ _ _ h => h) (Or.inl ⟨by rfl, ?_⟩) ?_ ?_
    rotate_left
    · intro w'
      go_simp
      with_reducible rfl
    rotate_left
    · simp only [Act.put, List.setIfInBounds_toArray, List.set_cons_zero, List.set_cons_succ, i64_w, i32_w]
      rfl
    refine take_ (i := 3) (N := some 48) (v := ?_) (a' := ?_) #[true, true, true, true, true, false, true, false, false, false, false, false, false, false] rfl rfl (by kernel_rfl) (fun _ _ _ h => h) (Or.inl ⟨by rfl, ?_⟩) hHeld ?_ ?_
    rotate_left
    · intro w' hS'
      have s0 := hS'
      have hh := HL.out.below (bt_ HB2.out hS'); have c0 := hh.c.1; have hm := (hS'.block _ (blk_lt HM2.out)).trans HM2.out; have m0 := cell_of (i := 0) hm rfl; have m1 := cell_of (i := 1) hm rfl; clear hh hm; go_simp
      with_reducible rfl
    rotate_left
    · simp only [Act.put, List.setIfInBounds_toArray, List.set_cons_zero, List.set_cons_succ, i64_w, i32_w]
      rfl
    refine take_ (i := 5) (N := some 50) (v := ?_) (a' := ?_) #[true, true, true, true, true, true, true, false, false, false, false, false, false, false] rfl rfl (by kernel_rfl) (fun _ _ _ h => h) (Or.inl ⟨by rfl, ?_⟩) hHeld ?_ ?_
    rotate_left
    · intro w' hS'
      have s0 := hS'
      have hh := HL.out.below (bt_ HB2.out hS'); have c0 := hh.c.1; have hm := (hS'.block _ (blk_lt HM2.out)).trans HM2.out; have m0 := cell_of (i := 0) hm rfl; have m1 := cell_of (i := 1) hm rfl; clear hh hm; go_simp
      with_reducible rfl
    rotate_left
    · simp only [Act.put, List.setIfInBounds_toArray, List.set_cons_zero, List.set_cons_succ, i64_w, i32_w]
      rfl
    refine take_ (i := 7) (N := some 52) (v := ?_) (a' := ?_) #[true, true, true, true, true, true, true, true, false, false, false, false, false, false] rfl rfl (by kernel_rfl) (fun _ _ _ h => h) (Or.inl ⟨by rfl, ?_⟩) hHeld ?_ ?_
    rotate_left
    · intro w' hS'
      have s0 := hS'
      have hh := HL.out.below (bt_ HB2.out hS'); have c0 := hh.c.1; have hm := (hS'.block _ (blk_lt HM2.out)).trans HM2.out; have m0 := cell_of (i := 0) hm rfl; have m1 := cell_of (i := 1) hm rfl; clear hh hm; go_simp
      with_reducible rfl
    rotate_left
    · simp only [Act.put, List.setIfInBounds_toArray, List.set_cons_zero, List.set_cons_succ, i64_w, i32_w]
      rfl
    refine one_ (i := 8) (N := some 53) #[true, true, true, true, true, true, true, true, true, false, false, false, false, false] rfl rfl (by kernel_rfl) (by decide) (fun K hK => ?_)
    refine goes_ Tryz.func182 (by kernel_rfl) rfl #[.pointer (some ⟨pt, 0, none⟩), .int .i64 nid, .int .i64 mid] (by rfl) rfl rfl (by simp [Act.eval]) ?_
    have hpa := pair_any (HT.out.below (bt_ HB2.out HW3.out)) nid mid
    rw [HPP.out] at hpa
    refine hpa.mono ?_
    clear hpa
    rintro e w10 ⟨rfl, rfl⟩
    refine ⟨_, rfl, ?_⟩
    refine hK.out _ _ HW3.out (fun _ => ?_)
    clear hK K hHeld
    refine norm_ (a' := ?_) ?_ ?_
    rotate_left
    · (simp only [Act.put, List.setIfInBounds_toArray, List.set_cons_zero, List.set_cons_succ]; rfl)
    refine pure_ (i := 9) (N := some 44) (v := ?_) (a' := ?_) #[true, true, true, true, true, true, true, true, true, true, false, false, false, false] rfl rfl (by kernel_rfl) (fun _ _ _ h => h) (Or.inl ⟨by rfl, ?_⟩) ?_ ?_
    rotate_left
    · intro w'
      go_simp
      with_reducible rfl
    rotate_left
    · simp only [Act.put, List.setIfInBounds_toArray, List.set_cons_zero, List.set_cons_succ, i64_w, i32_w]
      rfl
    refine pure_ (i := 10) (N := some 54) (v := ?_) (a' := ?_) #[true, true, true, true, true, true, true, true, true, true, true, false, false, false] rfl rfl (by kernel_rfl) (fun _ _ _ h => h) (Or.inl ⟨by rfl, ?_⟩) ?_ ?_
    rotate_left
    · intro w'
      go_simp
      with_reducible rfl
    rotate_left
    · simp only [Act.put, List.setIfInBounds_toArray, List.set_cons_zero, List.set_cons_succ, i64_w, i32_w]
      rfl
    refine pure_ (i := 11) (N := some 55) (v := ?_) (a' := ?_) #[true, true, true, true, true, true, true, true, true, true, true, true, false, false] rfl rfl (by kernel_rfl) (fun _ _ _ h => h) (Or.inl ⟨by rfl, ?_⟩) ?_ ?_
    rotate_left
    · intro w'
      go_simp
      with_reducible rfl
    rotate_left
    · simp only [Act.put, List.setIfInBounds_toArray, List.set_cons_zero, List.set_cons_succ, i64_w, i32_w]
      rfl
    refine pure_ (i := 12) (N := some 5) (v := ?_) (a' := ?_) #[true, true, true, true, true, true, true, true, true, true, true, true, true, false] rfl rfl (by kernel_rfl) (fun _ _ _ h => h) (Or.inl ⟨by rfl, ?_⟩) ?_ ?_
    rotate_left
    · intro w'
      go_simp
      with_reducible rfl
    rotate_left
    · simp only [Act.put, List.setIfInBounds_toArray, List.set_cons_zero, List.set_cons_succ, i64_w, i32_w]
      rfl
    refine pure_ (i := 13) (N := some 6) (v := ?_) (a' := ?_) #[true, true, true, true, true, true, true, true, true, true, true, true, true, true] rfl rfl (by kernel_rfl) (fun _ _ _ h => h) (Or.inl ⟨by rfl, ?_⟩) ?_ ?_
    rotate_left
    · intro w'
      go_simp
      with_reducible rfl
    rotate_left
    · simp only [Act.put, List.setIfInBounds_toArray, List.set_cons_zero, List.set_cons_succ, i64_w, i32_w]
      rfl
    refine done_ (by kernel_rfl) ?_
    go_wp2
    go_end0
    have HB3 := bt_ HB2.out HW3.out
    exact ⟨rfl, HL.out.below HB3, HB3.mono (Nat.le_trans HL.out.le (Nat.le_of_lt HL.out.lt)), H, by rw [HA.out]; rfl, HpOf.more (HQ.out.below HB3)⟩
  | some r =>
    rw [hp] at HA
    have HPP := As.mk hp
    clear hp
    by_cases hr : (r : Int) < lim
    · simp only [if_pos hr] at HA
      refine start_ (n := 14) (S := fun w' => Below w2.heap.size w2 w') (ds := []) #[false, false, false, false, false, false, false, false, false, false, false, false, false, false] (by kernel_rfl) rfl rfl (below_drew1 (Below.refl _ _)) (fun hHeld => ?_)
      have HW3 := As.mk hHeld; clear hHeld; generalize w2.drew = w3 at HW3 ⊢; have hHeld := HW3.out
      refine pure_ (i := 0) (N := some 45) (v := ?_) (a' := ?_) #[true, false, false, false, false, false, false, false, false, false, false, false, false, false] rfl rfl (by kernel_rfl) (fun _ _ _ h => h) (Or.inl ⟨by rfl, ?_⟩) ?_ ?_
      rotate_left
      · intro w'
        go_simp
        with_reducible rfl
      rotate_left
      · simp only [Act.put, List.setIfInBounds_toArray, List.set_cons_zero, List.set_cons_succ, i64_w, i32_w]
        rfl
      refine pure_ (i := 1) (N := some 46) (v := ?_) (a' := ?_) #[true, true, false, false, false, false, false, false, false, false, false, false, false, false] rfl rfl (by kernel_rfl) (fun _ _ _ h => h) (Or.inl ⟨by rfl, ?_⟩) ?_ ?_
      rotate_left
      · intro w'
        go_simp
        with_reducible rfl
      rotate_left
      · simp only [Act.put, List.setIfInBounds_toArray, List.set_cons_zero, List.set_cons_succ, i64_w, i32_w]
        rfl
      refine pure_ (i := 2) (N := some 47) (v := ?_) (a' := ?_) #[true, true, true, false, false, false, false, false, false, false, false, false, false, false] rfl rfl (by kernel_rfl) (fun _ _ _ h => h) (Or.inl ⟨by rfl, ?_⟩) ?_ ?_
      rotate_left
      · intro w'
        go_simp
        with_reducible rfl
      rotate_left
      · simp only [Act.put, List.setIfInBounds_toArray, List.set_cons_zero, List.set_cons_succ, i64_w, i32_w]
        rfl
      refine pure_ (i := 4) (N := some 49) (v := ?_) (a' := ?_) #[true, true, true, false, true, false, false, false, false, false, false, false, false, false] rfl rfl (by kernel_rfl) (fun _ _ _ h => h) (Or.inl ⟨by rfl, ?_⟩) ?_ ?_
      rotate_left
      · intro w'
        go_simp
        with_reducible rfl
      rotate_left
      · simp only [Act.put, List.setIfInBounds_toArray, List.set_cons_zero, List.set_cons_succ, i64_w, i32_w]
        rfl
      refine pure_ (i := 6) (N := some 51) (v := ?_) (a' := ?_) #[true, true, true, false, true, false, true, false, false, false, false, false, false, false] rfl rfl (by kernel_rfl) (fun _ _ _ h => h) (Or.inl ⟨by rfl, ?_⟩) ?_ ?_
      rotate_left
      · intro w'
        go_simp
        with_reducible rfl
      rotate_left
      · simp only [Act.put, List.setIfInBounds_toArray, List.set_cons_zero, List.set_cons_succ, i64_w, i32_w]
        rfl
      refine take_ (i := 3) (N := some 48) (v := ?_) (a' := ?_) #[true, true, true, true, true, false, true, false, false, false, false, false, false, false] rfl rfl (by kernel_rfl) (fun _ _ _ h => h) (Or.inl ⟨by rfl, ?_⟩) hHeld ?_ ?_
      rotate_left
      · intro w' hS'
        have s0 := hS'
        have hh := HL.out.below (bt_ HB2.out hS'); have c0 := hh.c.1; have hm := (hS'.block _ (blk_lt HM2.out)).trans HM2.out; have m0 := cell_of (i := 0) hm rfl; have m1 := cell_of (i := 1) hm rfl; clear hh hm; go_simp
        with_reducible rfl
      rotate_left
      · simp only [Act.put, List.setIfInBounds_toArray, List.set_cons_zero, List.set_cons_succ, i64_w, i32_w]
        rfl
      refine take_ (i := 5) (N := some 50) (v := ?_) (a' := ?_) #[true, true, true, true, true, true, true, false, false, false, false, false, false, false] rfl rfl (by kernel_rfl) (fun _ _ _ h => h) (Or.inl ⟨by rfl, ?_⟩) hHeld ?_ ?_
      rotate_left
      · intro w' hS'
        have s0 := hS'
        have hh := HL.out.below (bt_ HB2.out hS'); have c0 := hh.c.1; have hm := (hS'.block _ (blk_lt HM2.out)).trans HM2.out; have m0 := cell_of (i := 0) hm rfl; have m1 := cell_of (i := 1) hm rfl; clear hh hm; go_simp
        with_reducible rfl
      rotate_left
      · simp only [Act.put, List.setIfInBounds_toArray, List.set_cons_zero, List.set_cons_succ, i64_w, i32_w]
        rfl
      refine take_ (i := 7) (N := some 52) (v := ?_) (a' := ?_) #[true, true, true, true, true, true, true, true, false, false, false, false, false, false] rfl rfl (by kernel_rfl) (fun _ _ _ h => h) (Or.inl ⟨by rfl, ?_⟩) hHeld ?_ ?_
      rotate_left
      · intro w' hS'
        have s0 := hS'
        have hh := HL.out.below (bt_ HB2.out hS'); have c0 := hh.c.1; have hm := (hS'.block _ (blk_lt HM2.out)).trans HM2.out; have m0 := cell_of (i := 0) hm rfl; have m1 := cell_of (i := 1) hm rfl; clear hh hm; go_simp
        with_reducible rfl
      rotate_left
      · simp only [Act.put, List.setIfInBounds_toArray, List.set_cons_zero, List.set_cons_succ, i64_w, i32_w]
        rfl
      refine one_ (i := 8) (N := some 53) #[true, true, true, true, true, true, true, true, true, false, false, false, false, false] rfl rfl (by kernel_rfl) (by decide) (fun K hK => ?_)
      refine goes_ Tryz.func182 (by kernel_rfl) rfl #[.pointer (some ⟨pt, 0, none⟩), .int .i64 nid, .int .i64 mid] (by rfl) rfl rfl (by simp [Act.eval]) ?_
      have hpa := pair_any (HT.out.below (bt_ HB2.out HW3.out)) nid mid
      rw [HPP.out] at hpa
      refine hpa.mono ?_
      clear hpa
      rintro e w10 ⟨rfl, rfl⟩
      refine ⟨_, rfl, ?_⟩
      refine hK.out _ _ HW3.out (fun _ => ?_)
      clear hK K hHeld
      refine norm_ (a' := ?_) ?_ ?_
      rotate_left
      · (simp only [Act.put, List.setIfInBounds_toArray, List.set_cons_zero, List.set_cons_succ]; rfl)
      refine pure_ (i := 9) (N := some 44) (v := ?_) (a' := ?_) #[true, true, true, true, true, true, true, true, true, true, false, false, false, false] rfl rfl (by kernel_rfl) (fun _ _ _ h => h) (Or.inl ⟨by rfl, ?_⟩) ?_ ?_
      rotate_left
      · intro w'
        go_simp
        with_reducible rfl
      rotate_left
      · simp only [Act.put, List.setIfInBounds_toArray, List.set_cons_zero, List.set_cons_succ, i64_w, i32_w]
        rfl
      refine pure_ (i := 10) (N := some 54) (v := ?_) (a' := ?_) #[true, true, true, true, true, true, true, true, true, true, true, false, false, false] rfl rfl (by kernel_rfl) (fun _ _ _ h => h) (Or.inl ⟨by rfl, ?_⟩) ?_ ?_
      rotate_left
      · intro w'
        go_simp
        with_reducible rfl
      rotate_left
      · simp only [Act.put, List.setIfInBounds_toArray, List.set_cons_zero, List.set_cons_succ, i64_w, i32_w]
        rfl
      refine pure_ (i := 11) (N := some 55) (v := ?_) (a' := ?_) #[true, true, true, true, true, true, true, true, true, true, true, true, false, false] rfl rfl (by kernel_rfl) (fun _ _ _ h => h) (Or.inl ⟨by rfl, ?_⟩) ?_ ?_
      rotate_left
      · intro w'
        go_simp
        with_reducible rfl
      rotate_left
      · simp only [Act.put, List.setIfInBounds_toArray, List.set_cons_zero, List.set_cons_succ, i64_w, i32_w]
        rfl
      refine pure_ (i := 12) (N := some 5) (v := ?_) (a' := ?_) #[true, true, true, true, true, true, true, true, true, true, true, true, true, false] rfl rfl (by kernel_rfl) (fun _ _ _ h => h) (Or.inl ⟨by rfl, ?_⟩) ?_ ?_
      rotate_left
      · intro w'
        go_simp
        with_reducible rfl
      rotate_left
      · simp only [Act.put, List.setIfInBounds_toArray, List.set_cons_zero, List.set_cons_succ, i64_w, i32_w]
        rfl
      refine pure_ (i := 13) (N := some 6) (v := ?_) (a' := ?_) #[true, true, true, true, true, true, true, true, true, true, true, true, true, true] rfl rfl (by kernel_rfl) (fun _ _ _ h => h) (Or.inl ⟨by rfl, ?_⟩) ?_ ?_
      rotate_left
      · intro w'
        go_simp
        with_reducible rfl
      rotate_left
      · simp only [Act.put, List.setIfInBounds_toArray, List.set_cons_zero, List.set_cons_succ, i64_w, i32_w]
        rfl
      refine done_ (by kernel_rfl) ?_
      have c3 := (HL.out.below (bt_ HB2.out HW3.out)).c.2.2.2.1
      have HB3 := As.mk (bt_ HB2.out HW3.out)
      have HM3 := As.mk ((HW3.out.block _ (blk_lt HM2.out)).trans HM2.out)
      clear HW3 HB2 HM2
      go_wp2
      clear c3
      refine start_ (n := 10) (S := fun w' => Below w3.heap.size w3 w') (ds := [9]) #[false, false, false, false, false, false, false, false, false, false] (by kernel_rfl) rfl rfl (below_drew1 (Below.refl _ _)) (fun hHeld => ?_)
      have HW4 := As.mk hHeld; clear hHeld; generalize w3.drew = w4 at HW4 ⊢; have hHeld := HW4.out
      refine pure_ (i := 0) (N := some 65) (v := ?_) (a' := ?_) #[true, false, false, false, false, false, false, false, false, false] rfl rfl (by kernel_rfl) (fun _ _ _ h => h) (Or.inl ⟨by rfl, ?_⟩) ?_ ?_
      rotate_left
      · intro w'
        go_simp
        with_reducible rfl
      rotate_left
      · simp only [Act.put, List.setIfInBounds_toArray, List.set_cons_zero, List.set_cons_succ, i64_w, i32_w]
        rfl
      refine pure_ (i := 1) (N := some 66) (v := ?_) (a' := ?_) #[true, true, false, false, false, false, false, false, false, false] rfl rfl (by kernel_rfl) (fun _ _ _ h => h) (Or.inl ⟨by rfl, ?_⟩) ?_ ?_
      rotate_left
      · intro w'
        go_simp
        with_reducible rfl
      rotate_left
      · simp only [Act.put, List.setIfInBounds_toArray, List.set_cons_zero, List.set_cons_succ, i64_w, i32_w]
        rfl
      refine pure_ (i := 2) (N := some 67) (v := ?_) (a' := ?_) #[true, true, true, false, false, false, false, false, false, false] rfl rfl (by kernel_rfl) (fun _ _ _ h => h) (Or.inl ⟨by rfl, ?_⟩) ?_ ?_
      rotate_left
      · intro w'
        go_simp
        with_reducible rfl
      rotate_left
      · simp only [Act.put, List.setIfInBounds_toArray, List.set_cons_zero, List.set_cons_succ, i64_w, i32_w]
        rfl
      refine pure_ (i := 4) (N := some 69) (v := ?_) (a' := ?_) #[true, true, true, false, true, false, false, false, false, false] rfl rfl (by kernel_rfl) (fun _ _ _ h => h) (Or.inl ⟨by rfl, ?_⟩) ?_ ?_
      rotate_left
      · intro w'
        go_simp
        with_reducible rfl
      rotate_left
      · simp only [Act.put, List.setIfInBounds_toArray, List.set_cons_zero, List.set_cons_succ, i64_w, i32_w]
        rfl
      refine pure_ (i := 5) (N := some 70) (v := ?_) (a' := ?_) #[true, true, true, false, true, true, false, false, false, false] rfl rfl (by kernel_rfl) (fun _ _ _ h => h) (Or.inl ⟨by rfl, ?_⟩) ?_ ?_
      rotate_left
      · intro w'
        go_simp
        with_reducible rfl
      rotate_left
      · simp only [Act.put, List.setIfInBounds_toArray, List.set_cons_zero, List.set_cons_succ, i64_w, i32_w]
        rfl
      refine pure_ (i := 6) (N := some 71) (v := ?_) (a' := ?_) #[true, true, true, false, true, true, true, false, false, false] rfl rfl (by kernel_rfl) (fun _ _ _ h => h) (Or.inl ⟨by rfl, ?_⟩) ?_ ?_
      rotate_left
      · intro w'
        go_simp
        with_reducible rfl
      rotate_left
      · simp only [Act.put, List.setIfInBounds_toArray, List.set_cons_zero, List.set_cons_succ, i64_w, i32_w]
        rfl
      refine take_ (i := 3) (N := some 68) (v := ?_) (a' := ?_) #[true, true, true, true, true, true, true, false, false, false] rfl rfl (by kernel_rfl) (fun _ _ _ h => h) (Or.inl ⟨by rfl, ?_⟩) hHeld ?_ ?_
      rotate_left
      · intro w' hS'
        have s0 := hS'
        have hh := HL.out.below (bt_ HB3.out hS'); have c2 := hh.c.2.2.1; have hm := (hS'.block _ (blk_lt HM3.out)).trans HM3.out; have m0 := cell_of (i := 0) hm rfl; have m1 := cell_of (i := 1) hm rfl; clear hh hm; go_simp
        with_reducible rfl
      rotate_left
      · simp only [Act.put, List.setIfInBounds_toArray, List.set_cons_zero, List.set_cons_succ, i64_w, i32_w]
        rfl
      refine take_ (i := 7) (N := some 72) (v := ?_) (a' := ?_) #[true, true, true, true, true, true, true, true, false, false] rfl rfl (by kernel_rfl) (fun _ _ _ h => h) (Or.inl ⟨by rfl, ?_⟩) hHeld ?_ ?_
      rotate_left
      · intro w' hS'
        have s0 := hS'
        have hh := HL.out.below (bt_ HB3.out hS'); have c2 := hh.c.2.2.1; have hm := (hS'.block _ (blk_lt HM3.out)).trans HM3.out; have m0 := cell_of (i := 0) hm rfl; have m1 := cell_of (i := 1) hm rfl; clear hh hm; go_simp
        with_reducible rfl
      rotate_left
      · simp only [Act.put, List.setIfInBounds_toArray, List.set_cons_zero, List.set_cons_succ, i64_w, i32_w]
        rfl
      refine pure_ (i := 8) (N := some 73) (v := ?_) (a' := ?_) #[true, true, true, true, true, true, true, true, true, false] rfl rfl (by kernel_rfl) (fun _ _ _ h => h) (Or.inl ⟨by rfl, ?_⟩) ?_ ?_
      rotate_left
      · intro w'
        go_simp
        with_reducible rfl
      rotate_left
      · simp only [Act.put, List.setIfInBounds_toArray, List.set_cons_zero, List.set_cons_succ, i64_w, i32_w]
        rfl
      refine last_ (i := 9) (N := some 74) #[true, true, true, true, true, true, true, true, true, true] rfl rfl (by kernel_rfl) (by decide) (fun K hK => ?_)
      refine goes_ Tryz.func183 (by kernel_rfl) rfl #[.pointer (some ⟨q, 0, none⟩), .int .i64 (r : Int), .int .i64 (i : Int), .agg #[.int .i64 (i : Int), .int .i64 nid, .int .i64 mid]] (by rfl) rfl rfl (by simp [Act.eval]) ?_
      refine (push_any (HQ.out.below (bt_ HB3.out HW4.out)) (r : Int) (i : Int) (i : Int) nid mid HBD.out.1 HBD.out.2).mono ?_
      rintro e w5 ⟨rfl, hqq, hbb, hkk⟩
      refine ⟨_, rfl, ?_⟩
      have HQ5 := As.mk hqq
      have HB5 := As.mk (((bt_ HB3.out HW4.out).mono (Nat.le_trans HL.out.le (Nat.le_of_lt HL.out.lt))).trans hbb)
      have HL5 := As.mk ((HL.out.below (bt_ HB3.out HW4.out)).kept hkk (HpOf.qt hqq.choose_spec))
      clear hqq hbb hkk hHeld
      refine hK.out _ _ ?_
      clear hK K
      refine done_ (by kernel_rfl) ?_
      go_wp2
      go_end0
      obtain ⟨t, ht⟩ := HQ5.out
      exact ⟨rfl, HL5.out, HB5.out, _, by rw [HA.out]; exact ⟨t, rfl⟩, ht⟩
    · simp only [if_neg hr] at HA
      refine start_ (n := 14) (S := fun w' => Below w2.heap.size w2 w') (ds := []) #[false, false, false, false, false, false, false, false, false, false, false, false, false, false] (by kernel_rfl) rfl rfl (below_drew1 (Below.refl _ _)) (fun hHeld => ?_)
      have HW3 := As.mk hHeld; clear hHeld; generalize w2.drew = w3 at HW3 ⊢; have hHeld := HW3.out
      refine pure_ (i := 0) (N := some 45) (v := ?_) (a' := ?_) #[true, false, false, false, false, false, false, false, false, false, false, false, false, false] rfl rfl (by kernel_rfl) (fun _ _ _ h => h) (Or.inl ⟨by rfl, ?_⟩) ?_ ?_
      rotate_left
      · intro w'
        go_simp
        with_reducible rfl
      rotate_left
      · simp only [Act.put, List.setIfInBounds_toArray, List.set_cons_zero, List.set_cons_succ, i64_w, i32_w]
        rfl
      refine pure_ (i := 1) (N := some 46) (v := ?_) (a' := ?_) #[true, true, false, false, false, false, false, false, false, false, false, false, false, false] rfl rfl (by kernel_rfl) (fun _ _ _ h => h) (Or.inl ⟨by rfl, ?_⟩) ?_ ?_
      rotate_left
      · intro w'
        go_simp
        with_reducible rfl
      rotate_left
      · simp only [Act.put, List.setIfInBounds_toArray, List.set_cons_zero, List.set_cons_succ, i64_w, i32_w]
        rfl
      refine pure_ (i := 2) (N := some 47) (v := ?_) (a' := ?_) #[true, true, true, false, false, false, false, false, false, false, false, false, false, false] rfl rfl (by kernel_rfl) (fun _ _ _ h => h) (Or.inl ⟨by rfl, ?_⟩) ?_ ?_
      rotate_left
      · intro w'
        go_simp
        with_reducible rfl
      rotate_left
      · simp only [Act.put, List.setIfInBounds_toArray, List.set_cons_zero, List.set_cons_succ, i64_w, i32_w]
        rfl
      refine pure_ (i := 4) (N := some 49) (v := ?_) (a' := ?_) #[true, true, true, false, true, false, false, false, false, false, false, false, false, false] rfl rfl (by kernel_rfl) (fun _ _ _ h => h) (Or.inl ⟨by rfl, ?_⟩) ?_ ?_
      rotate_left
      · intro w'
        go_simp
        with_reducible rfl
      rotate_left
      · simp only [Act.put, List.setIfInBounds_toArray, List.set_cons_zero, List.set_cons_succ, i64_w, i32_w]
        rfl
      refine pure_ (i := 6) (N := some 51) (v := ?_) (a' := ?_) #[true, true, true, false, true, false, true, false, false, false, false, false, false, false] rfl rfl (by kernel_rfl) (fun _ _ _ h => h) (Or.inl ⟨by rfl, ?_⟩) ?_ ?_
      rotate_left
      · intro w'
        go_simp
        with_reducible rfl
      rotate_left
      · simp only [Act.put, List.setIfInBounds_toArray, List.set_cons_zero, List.set_cons_succ, i64_w, i32_w]
        rfl
      refine take_ (i := 3) (N := some 48) (v := ?_) (a' := ?_) #[true, true, true, true, true, false, true, false, false, false, false, false, false, false] rfl rfl (by kernel_rfl) (fun _ _ _ h => h) (Or.inl ⟨by rfl, ?_⟩) hHeld ?_ ?_
      rotate_left
      · intro w' hS'
        have s0 := hS'
        have hh := HL.out.below (bt_ HB2.out hS'); have c0 := hh.c.1; have hm := (hS'.block _ (blk_lt HM2.out)).trans HM2.out; have m0 := cell_of (i := 0) hm rfl; have m1 := cell_of (i := 1) hm rfl; clear hh hm; go_simp
        with_reducible rfl
      rotate_left
      · simp only [Act.put, List.setIfInBounds_toArray, List.set_cons_zero, List.set_cons_succ, i64_w, i32_w]
        rfl
      refine take_ (i := 5) (N := some 50) (v := ?_) (a' := ?_) #[true, true, true, true, true, true, true, false, false, false, false, false, false, false] rfl rfl (by kernel_rfl) (fun _ _ _ h => h) (Or.inl ⟨by rfl, ?_⟩) hHeld ?_ ?_
      rotate_left
      · intro w' hS'
        have s0 := hS'
        have hh := HL.out.below (bt_ HB2.out hS'); have c0 := hh.c.1; have hm := (hS'.block _ (blk_lt HM2.out)).trans HM2.out; have m0 := cell_of (i := 0) hm rfl; have m1 := cell_of (i := 1) hm rfl; clear hh hm; go_simp
        with_reducible rfl
      rotate_left
      · simp only [Act.put, List.setIfInBounds_toArray, List.set_cons_zero, List.set_cons_succ, i64_w, i32_w]
        rfl
      refine take_ (i := 7) (N := some 52) (v := ?_) (a' := ?_) #[true, true, true, true, true, true, true, true, false, false, false, false, false, false] rfl rfl (by kernel_rfl) (fun _ _ _ h => h) (Or.inl ⟨by rfl, ?_⟩) hHeld ?_ ?_
      rotate_left
      · intro w' hS'
        have s0 := hS'
        have hh := HL.out.below (bt_ HB2.out hS'); have c0 := hh.c.1; have hm := (hS'.block _ (blk_lt HM2.out)).trans HM2.out; have m0 := cell_of (i := 0) hm rfl; have m1 := cell_of (i := 1) hm rfl; clear hh hm; go_simp
        with_reducible rfl
      rotate_left
      · simp only [Act.put, List.setIfInBounds_toArray, List.set_cons_zero, List.set_cons_succ, i64_w, i32_w]
        rfl
      refine one_ (i := 8) (N := some 53) #[true, true, true, true, true, true, true, true, true, false, false, false, false, false] rfl rfl (by kernel_rfl) (by decide) (fun K hK => ?_)
      refine goes_ Tryz.func182 (by kernel_rfl) rfl #[.pointer (some ⟨pt, 0, none⟩), .int .i64 nid, .int .i64 mid] (by rfl) rfl rfl (by simp [Act.eval]) ?_
      have hpa := pair_any (HT.out.below (bt_ HB2.out HW3.out)) nid mid
      rw [HPP.out] at hpa
      refine hpa.mono ?_
      clear hpa
      rintro e w10 ⟨rfl, rfl⟩
      refine ⟨_, rfl, ?_⟩
      refine hK.out _ _ HW3.out (fun _ => ?_)
      clear hK K hHeld
      refine norm_ (a' := ?_) ?_ ?_
      rotate_left
      · (simp only [Act.put, List.setIfInBounds_toArray, List.set_cons_zero, List.set_cons_succ]; rfl)
      refine pure_ (i := 9) (N := some 44) (v := ?_) (a' := ?_) #[true, true, true, true, true, true, true, true, true, true, false, false, false, false] rfl rfl (by kernel_rfl) (fun _ _ _ h => h) (Or.inl ⟨by rfl, ?_⟩) ?_ ?_
      rotate_left
      · intro w'
        go_simp
        with_reducible rfl
      rotate_left
      · simp only [Act.put, List.setIfInBounds_toArray, List.set_cons_zero, List.set_cons_succ, i64_w, i32_w]
        rfl
      refine pure_ (i := 10) (N := some 54) (v := ?_) (a' := ?_) #[true, true, true, true, true, true, true, true, true, true, true, false, false, false] rfl rfl (by kernel_rfl) (fun _ _ _ h => h) (Or.inl ⟨by rfl, ?_⟩) ?_ ?_
      rotate_left
      · intro w'
        go_simp
        with_reducible rfl
      rotate_left
      · simp only [Act.put, List.setIfInBounds_toArray, List.set_cons_zero, List.set_cons_succ, i64_w, i32_w]
        rfl
      refine pure_ (i := 11) (N := some 55) (v := ?_) (a' := ?_) #[true, true, true, true, true, true, true, true, true, true, true, true, false, false] rfl rfl (by kernel_rfl) (fun _ _ _ h => h) (Or.inl ⟨by rfl, ?_⟩) ?_ ?_
      rotate_left
      · intro w'
        go_simp
        with_reducible rfl
      rotate_left
      · simp only [Act.put, List.setIfInBounds_toArray, List.set_cons_zero, List.set_cons_succ, i64_w, i32_w]
        rfl
      refine pure_ (i := 12) (N := some 5) (v := ?_) (a' := ?_) #[true, true, true, true, true, true, true, true, true, true, true, true, true, false] rfl rfl (by kernel_rfl) (fun _ _ _ h => h) (Or.inl ⟨by rfl, ?_⟩) ?_ ?_
      rotate_left
      · intro w'
        go_simp
        with_reducible rfl
      rotate_left
      · simp only [Act.put, List.setIfInBounds_toArray, List.set_cons_zero, List.set_cons_succ, i64_w, i32_w]
        rfl
      refine pure_ (i := 13) (N := some 6) (v := ?_) (a' := ?_) #[true, true, true, true, true, true, true, true, true, true, true, true, true, true] rfl rfl (by kernel_rfl) (fun _ _ _ h => h) (Or.inl ⟨by rfl, ?_⟩) ?_ ?_
      rotate_left
      · intro w'
        go_simp
        with_reducible rfl
      rotate_left
      · simp only [Act.put, List.setIfInBounds_toArray, List.set_cons_zero, List.set_cons_succ, i64_w, i32_w]
        rfl
      refine done_ (by kernel_rfl) ?_
      have c3 := (HL.out.below (bt_ HB2.out HW3.out)).c.2.2.2.1
      go_wp2
      go_end0
      have HB3 := bt_ HB2.out HW3.out
      exact ⟨rfl, HL.out.below HB3, HB3.mono (Nat.le_trans HL.out.le (Nat.le_of_lt HL.out.lt)), H, by rw [HA.out]; rfl, HpOf.more (HQ.out.below HB3)⟩
end Go.Proofs.YtkffhgiiejbnaaaGreat.Ch
