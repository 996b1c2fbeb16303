import Derived.Test.YtkffhgiiejbnaaaGreatQEncC
set_option linter.unusedVariables false
set_option linter.unusedSimpArgs false
namespace Go.Proofs.YtkffhgiiejbnaaaGreat.En
open Go.Shelf Go.RowKit Go.Proofs.YtkffhgiiejbnaaaGreatW.PrintWords Go.Proofs.YtkffhgiiejbnaaaGreatW.PrintLast Go.Proofs.YtkffhgiiejbnaaaGreatW.PrintMore Go.Proofs.YtkffhgiiejbnaaaGreat.Rf Go.Proofs.YtkffhgiiejbnaaaGreat.Aid Go.Proofs.YtkffhgiiejbnaaaGreat.Mp Go.Proofs.YtkffhgiiejbnaaaGreat.Hp Go.Proofs.YtkffhgiiejbnaaaGreat.Bn Go.Proofs.YtkffhgiiejbnaaaGreat.Tk Go.Proofs.YtkffhgiiejbnaaaGreat.Vc Go.Proofs.YtkffhgiiejbnaaaGreat.Rg
set_option linter.unusedVariables false
set_option linter.unusedSimpArgs false
set_option maxHeartbeats 400000
def pieceT (s : Sp) : List Int → List Int
  | [] => []
  | a :: l => if a < 0 then [(Mk.hasP s.X a).1.f0] else Ch.encS (tabOf s).1 (strOfNums (a :: l))
theorem pieceT_cons (s : Sp) (a : Int) (l : List Int) : pieceT s (a :: l) = if a < 0 then [(Mk.hasP s.X a).1.f0] else Ch.encS (tabOf s).1 (strOfNums (a :: l)) := rfl
theorem pieceT_len (s : Sp) : ∀ p : List Int, (pieceT s p).length ≤ p.length
  | [] => Nat.le_refl _
  | a :: l => by
    rw [pieceT_cons]
    split
    · simp
    · have := Ch.encS_len (tabOf s).1 (strOfNums (a :: l)); rw [str_size] at this; exact this
set_option maxRecDepth 100000 in
theorem piece_neg {w : World} {v : Nat} {s : Sp} (hv : VocAt w v s) {A : Option Addr} {c : Nat} {a : Int} {l : List Int} (hr : Kd.C (Kd.int .i64) w A (a :: l).length (a :: l)) (ha : a < 0) :
    Calls Tryz.prog 94 #[.pointer (some ⟨v, 0, none⟩), .slice A (a :: l).length c] w fun e w' => ∃ sv, e = .returned sv ∧ Kd.R (Kd.int .i64) 3 w' w.heap.size (fun _ => True) sv (pieceT s (a :: l)) ∧ Below w.heap.size w w' := by
  have HV := As.mk hv
  have HR := As.mk hr
  obtain ⟨ad, rfl, z0⟩ := rd_at hr (i := 0) (a := a) rfl
  simp only [Addr.add_zero'] at z0
  have hlen : (0 : Int) < ((a :: l).length : Int) := by simp only [List.length_cons]; omega
  have hlenN : 0 < (a :: l).length := by simp
  have HE := As.mk (show pieceT s (a :: l) = [(Mk.hasP s.X a).1.f0] by rw [pieceT_cons, if_pos ha])
  have HX0 := As.mk (show (a :: l)[0]? = some a from rfl)
  rw [HE.out]
  clear hv hr
  generalize a :: l = p at *
  generalize hn : p.length = n at *
  go_enter Tryz.func94, Tryz.ntmps94
  go_wp2
  refine start_ (n := 11) (S := fun w' => Below w.heap.size w w') (ds := []) #[false, false, false, false, false, false, false, false, false, false, false] (by kernel_rfl) rfl rfl (below_drew1 (Below.refl _ _)) (fun hHeld => ?_)
  have HW9 := As.mk hHeld; clear hHeld; generalize w.drew = w9 at HW9 ⊢; have hHeld := HW9.out
  refine pure_ (i := 0) (N := some 12) (v := ?_) (a' := ?_) #[true, false, false, false, false, false, false, false, false, false, false] rfl rfl (by kernel_rfl) (fun _ _ _ h => h) (Or.inl ⟨by rfl, ?_⟩) ?_ ?_
  rotate_left
  · intro w'
    go_simp
    with_reducible rfl
  rotate_left
  · simp only [Act.put, List.setIfInBounds_toArray, List.set_cons_zero, List.set_cons_succ, i64_w, i32_w]
    rfl
  refine pure_ (i := 2) (N := some 14) (v := ?_) (a' := ?_) #[true, false, true, false, false, false, false, false, false, false, false] rfl rfl (by kernel_rfl) (fun _ _ _ h => h) (Or.inl ⟨by rfl, ?_⟩) ?_ ?_
  rotate_left
  · intro w'
    go_simp
    with_reducible rfl
  rotate_left
  · simp only [Act.put, List.setIfInBounds_toArray, List.set_cons_zero, List.set_cons_succ, i64_w, i32_w]
    rfl
  refine pure_ (i := 3) (N := some 15) (v := ?_) (a' := ?_) #[true, false, true, true, false, false, false, false, false, false, false] rfl rfl (by kernel_rfl) (fun _ _ _ h => h) (Or.inl ⟨by rfl, ?_⟩) ?_ ?_
  rotate_left
  · intro w'
    go_simp
    with_reducible rfl
  rotate_left
  · simp only [Act.put, List.setIfInBounds_toArray, List.set_cons_zero, List.set_cons_succ, i64_w, i32_w]
    rfl
  refine take_ (i := 4) (N := some 16) (v := ?_) (a' := ?_) #[true, false, true, true, true, false, false, false, false, false, false] rfl rfl (by kernel_rfl) (fun _ _ _ h => h) (Or.inl ⟨by rfl, ?_⟩) hHeld ?_ ?_
  rotate_left
  · intro w' hS'
    have s0 := hS'
    have x0 := rd_ad (Kd.C_below HR.out hS') HX0.out; simp only [Addr.add_zero'] at x0; go_simp
    with_reducible rfl
  rotate_left
  · simp only [Act.put, List.setIfInBounds_toArray, List.set_cons_zero, List.set_cons_succ, i64_w, i32_w]
    rfl
  refine one_ (i := 1) (N := some 13) #[true, true, true, true, true, false, false, false, false, false, false] rfl rfl (by kernel_rfl) (by decide) (fun K hK => ?_)
  refine goes_ Tryz.func67 (by kernel_rfl) rfl #[.pointer (some ⟨v, 0, none⟩)] (by rfl) rfl rfl (by simp [Act.eval]) ?_
  refine (marks_any (HV.out.below HW9.out)).mono ?_
  rintro e w10 ⟨pm, rfl, hm, rfl⟩
  have HM := As.mk hm
  clear hm
  refine ⟨_, rfl, ?_⟩
  refine hK.out _ _ HW9.out (fun _ => ?_)
  clear hK K
  refine norm_ (a' := ?_) ?_ ?_
  rotate_left
  · (simp only [Act.put, List.setIfInBounds_toArray, List.set_cons_zero, List.set_cons_succ]; rfl)
  refine one_ (i := 5) (N := some 17) #[true, true, true, true, true, true, false, false, false, false, false] rfl rfl (by kernel_rfl) (by decide) (fun K hK => ?_)
  refine goes_ Tryz.func129 (by kernel_rfl) rfl #[.pointer (some ⟨pm, 0, none⟩), .int .i64 a] (by rfl) rfl rfl (by simp [Act.eval]) ?_
  refine (Mk.id_any HM.out a).mono ?_
  rintro e w10 ⟨rfl, hb10⟩
  have HW10 := As.mk (bt_ HW9.out hb10)
  clear hb10
  refine ⟨_, rfl, ?_⟩
  refine hK.out _ _ HW10.out (fun _ => ?_)
  clear hK K hHeld
  refine norm_ (a' := ?_) ?_ ?_
  rotate_left
  · (simp only [Act.put, List.setIfInBounds_toArray, List.set_cons_zero, List.set_cons_succ]; rfl)
  refine pure_ (i := 6) (N := some 11) (v := ?_) (a' := ?_) #[true, true, true, true, true, true, true, false, false, false, false] rfl rfl (by kernel_rfl) (fun _ _ _ h => h) (Or.inl ⟨by rfl, ?_⟩) ?_ ?_
  rotate_left
  · intro w'
    go_simp
    with_reducible rfl
  rotate_left
  · simp only [Act.put, List.setIfInBounds_toArray, List.set_cons_zero, List.set_cons_succ, i64_w, i32_w]
    rfl
  refine pure_ (i := 7) (N := some 18) (v := ?_) (a' := ?_) #[true, true, true, true, true, true, true, true, false, false, false] rfl rfl (by kernel_rfl) (fun _ _ _ h => h) (Or.inl ⟨by rfl, ?_⟩) ?_ ?_
  rotate_left
  · intro w'
    go_simp
    with_reducible rfl
  rotate_left
  · simp only [Act.put, List.setIfInBounds_toArray, List.set_cons_zero, List.set_cons_succ, i64_w, i32_w]
    rfl
  refine pure_ (i := 8) (N := some 19) (v := ?_) (a' := ?_) #[true, true, true, true, true, true, true, true, true, false, false] rfl rfl (by kernel_rfl) (fun _ _ _ h => h) (Or.inl ⟨by rfl, ?_⟩) ?_ ?_
  rotate_left
  · intro w'
    go_simp
    with_reducible rfl
  rotate_left
  · simp only [Act.put, List.setIfInBounds_toArray, List.set_cons_zero, List.set_cons_succ, i64_w, i32_w]
    rfl
  refine pure_ (i := 9) (N := some 5) (v := ?_) (a' := ?_) #[true, true, true, true, true, true, true, true, true, true, false] rfl rfl (by kernel_rfl) (fun _ _ _ h => h) (Or.inl ⟨by rfl, ?_⟩) ?_ ?_
  rotate_left
  · intro w'
    go_simp
    with_reducible rfl
  rotate_left
  · simp only [Act.put, List.setIfInBounds_toArray, List.set_cons_zero, List.set_cons_succ, i64_w, i32_w]
    rfl
  refine pure_ (i := 10) (N := some 6) (v := ?_) (a' := ?_) #[true, true, true, true, true, true, true, true, true, true, true] rfl rfl (by kernel_rfl) (fun _ _ _ h => h) (Or.inl ⟨by rfl, ?_⟩) ?_ ?_
  rotate_left
  · intro w'
    go_simp
    with_reducible rfl
  rotate_left
  · simp only [Act.put, List.setIfInBounds_toArray, List.set_cons_zero, List.set_cons_succ, i64_w, i32_w]
    rfl
  refine done_ (by kernel_rfl) ?_
  go_wp2
  go_ret
  exact ⟨_, rfl, Kd.R_lower (Kd.R_of_own (own_lit w10 w10.heap.size 3 .i64 [(Mk.hasP s.X a).1.f0] (Nat.le_refl _) (by simp)) (fun _ _ => trivial)) HW10.out.size, bt_ HW10.out (below_alloc (Below.refl _ _) _)⟩
set_option maxRecDepth 100000 in
theorem piece_pos {w : World} {v : Nat} {s : Sp} (hv : VocAt w v s) {A : Option Addr} {c : Nat} {a : Int} {l : List Int} (hr : Kd.C (Kd.int .i64) w A (a :: l).length (a :: l)) (hb : ∀ x ∈ a :: l, 0 ≤ x ∧ x < 256) (hl : (a :: l).length ≤ 200000000) :
    Calls Tryz.prog 94 #[.pointer (some ⟨v, 0, none⟩), .slice A (a :: l).length c] w fun e w' => ∃ sv, e = .returned sv ∧ Kd.R (Kd.int .i64) 3 w' w.heap.size (fun _ => True) sv (pieceT s (a :: l)) ∧ Below w.heap.size w w' := by
  have HV := As.mk hv
  have HR := As.mk hr
  have HBY := As.mk hb
  have HLN := As.mk hl
  obtain ⟨ad, rfl, z0⟩ := rd_at hr (i := 0) (a := a) rfl
  simp only [Addr.add_zero'] at z0
  have hlen : (0 : Int) < ((a :: l).length : Int) := by simp only [List.length_cons]; omega
  have hlenN : 0 < (a :: l).length := by simp
  have ha : 0 ≤ a := (hb a (List.mem_cons_self ..)).1
  have ha0 : ¬ a < 0 := by omega
  have HE := As.mk (show pieceT s (a :: l) = Ch.encS (tabOf s).1 (strOfNums (a :: l)) by rw [pieceT_cons, if_neg ha0])
  rw [HE.out]
  clear hv hr hb hl
  generalize a :: l = p at *
  go_enter Tryz.func94, Tryz.ntmps94
  go_wp2_with (first
    | (go_at_call 131; refine (table_any HV.out).mono ?_; rintro e w1 ⟨pt, rfl, ht, rfl⟩; have HT := As.mk ht; clear ht)
    | (go_at_call 132; refine (text_of HR.out HBY.out HLN.out).mono ?_; rintro e w2 ⟨rfl, hb2⟩; have HB2 := As.mk hb2; clear hb2)
    | (go_at_call 130; refine (Ch.encode_any (good_of s) (HT.out.below HB2.out) (strOfNums p) (by rw [str_size]; exact HLN.out)).mono ?_; rintro e w3 ⟨sv, rfl, ho, hb3⟩; have HO3 := As.mk ho; have HB3 := As.mk hb3; clear ho hb3))
  go_ret
  exact ⟨_, rfl, Kd.R_lower HO3.out HB2.out.size, bt_ HB2.out HB3.out⟩
def PieceOk (s : Sp) (p : List Int) : Prop := p ≠ [] ∧ ((∃ a, p = [a] ∧ a < 0) ∨ ∀ x ∈ p, 0 ≤ x ∧ x < 256)
theorem piece_any {w : World} {v : Nat} {s : Sp} (hv : VocAt w v s) {A : Option Addr} {c : Nat} {p : List Int} (hr : Kd.C (Kd.int .i64) w A p.length p) (hp : PieceOk s p) (hl : p.length ≤ 200000000) :
    Calls Tryz.prog 94 #[.pointer (some ⟨v, 0, none⟩), .slice A p.length c] w fun e w' => ∃ sv, e = .returned sv ∧ Kd.R (Kd.int .i64) 3 w' w.heap.size (fun _ => True) sv (pieceT s p) ∧ Below w.heap.size w w' := by
  obtain ⟨h0, ⟨a, rfl, ha⟩ | hb⟩ := hp
  · exact piece_neg hv hr ha
  · match p, h0 with
    | a :: l, _ => exact piece_pos hv hr hb hl
theorem cutN_neg {s : Sp} {a : Int} {l : List Int} (ha : a < 0) : cutN s (a :: l) = 1 := by
  cases l with
  | nil => rfl
  | cons b l => unfold cutN; rw [if_pos (.inl ha)]
theorem cutN_bytes {s : Sp} : ∀ (l : List Int) (a : Int), 0 ≤ a → ∀ x ∈ (a :: l).take (cutN s (a :: l)), 0 ≤ x
  | [], a, ha, x, hx => by
    have e : cutN s [a] = 1 := rfl
    rw [e] at hx
    simp only [List.take_succ_cons, List.take_zero, List.mem_singleton] at hx
    omega
  | b :: l, a, ha, x, hx => by
    unfold cutN at hx
    by_cases h : a < 0 ∨ b < 0 ∨ cutP s a.toNat b.toNat = true
    · rw [if_pos h] at hx
      simp only [List.take_succ_cons, List.take_zero, List.mem_singleton] at hx
      omega
    · rw [if_neg h, Nat.add_comm, List.take_succ_cons] at hx
      rcases List.mem_cons.1 hx with e | hx
      · omega
      · exact cutN_bytes l b (by have := h; omega) x hx
theorem pcsF_ok {s : Sp} : ∀ (f : Nat) (A : Option Addr) (c : Nat) (xs : List Int), (∀ x ∈ xs, rightP s x = true) → ∀ x ∈ pcsF s f A c xs, PieceOk s x.2
  | 0, A, c, xs, h, x, hx => by cases hx
  | f + 1, A, c, xs, h, x, hx => by
    by_cases h0 : xs = []
    · subst h0; rw [pcsF_nil] at hx; cases hx
    · rw [pcsF_cons h0] at hx
      rcases List.mem_cons.1 hx with e | hx
      · subst e
        match xs, h0 with
        | a :: l, _ =>
          refine ⟨fun e => ?_, ?_⟩
          · have := cutN_pos s (l := a :: l) (by simp)
            have h2 := congrArg List.length e
            rw [List.length_take] at h2
            simp only [List.length_cons, List.length_nil] at h2
            omega
          · by_cases ha : a < 0
            · left; exact ⟨a, by rw [cutN_neg ha]; rfl, ha⟩
            · right
              intro y hy
              have h1 := cutN_bytes l a (by omega) y hy
              exact ⟨h1, rightP_byte (h y (List.mem_of_mem_take hy)) h1⟩
      · exact pcsF_ok f _ _ _ (fun y hy => h y (List.mem_of_mem_drop hy)) x hx
end Go.Proofs.YtkffhgiiejbnaaaGreat.En
