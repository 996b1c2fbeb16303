/- The windows that make one list of another one: the program's answer; no condition but the lists' lengths. -/
import Derived.Test.YtphdbombgljamaaDiffS
import Derived.Test.YtphdbombgljamaaRfx2
namespace Go.Proofs.Ytphdbombgljamaa.Df
open Go.RowKit Go.Proofs.YtphdbombgljamaaW.PrintWords Go.Proofs.YtphdbombgljamaaW.PrintLast Go.Proofs.YtphdbombgljamaaW.PrintMore Go.Proofs.Ytphdbombgljamaa.Rf Go.Proofs.Ytphdbombgljamaa.Aid
set_option linter.unusedVariables false
set_option linter.unusedSimpArgs false
set_option maxHeartbeats 400000

theorem info_ed : (Try.prog.info? 43).map (fun i => (i.zero, i.size, i.bytes)) = some (some (.agg #[.int .i64 0, .int .i64 0, .slice none 0 0]), 3, 40) := by kernel_rfl
set_option maxRecDepth 100000 in
theorem cloneI_any (A : Option Addr) (c : Nat) (l : List Int) (w : World) (hr : Kd.C (Kd.int .i64) w A l.length l) (hl : l.length ≤ 1000000) :
    Calls Try.prog 42 #[.slice A l.length c] w fun e w' => ∃ v, e = .returned v ∧ (Kd.int .i64).R 3 w' w.heap.size (fun _ => True) v l ∧ Below w.heap.size w w' := by
  have HR := As.mk hr
  clear hr
  have q33 : ∀ (w : World) (a : Option Addr) (n c n' c' : Nat), (binOp .eql 33 (.slice a n c) (.slice none n' c')).run Try.prog w = .ok (.bool a.isNone) w := fun w a n c n' c' => Lib.run_eql_slice_nil w _ _ a n c n' c' Try.underlying33
  cases A with
  | none =>
    have h0 : l.length = 0 := by
      rcases Nat.eq_zero_or_pos l.length with h | h
      · exact h
      · obtain ⟨ad, e, _⟩ := HR.out.2.2 h; cases e
    obtain rfl : l = [] := List.eq_nil_of_length_eq_zero h0
    go_enter Try.func42, Try.ntmps42
    go_wp2
    go_ret
    exact ⟨.slice none 0 0, rfl, Kd.R_nil _ _ _ _ _, Below.refl _ _⟩
  | some ad =>
    go_enter Try.func42, Try.ntmps42
    go_wp2_with ((with_reducible refine gate_builtin (b := .append) (xs := #[.tmp 5, .tmp 6]) rfl ?_); at_builtin; refine Kd.R_append_rows (Kd.int .i64) (Rr := (Kd.int .i64).K w) (w0 := w) w.heap.size rfl (.tmp 5) (.tmp 6) 33 3 (.int .i64 0) 8 rfl Try.underlying33 info3 rfl (by decide) (by omega) (.slice (some ⟨w.heap.size, 0, none⟩) 0 0) [] l (some ad) l.length c (fun _ => True) (fun _ => False) (by rfl) (by rfl) ?q1 ?q2 ?q3 (fun _ hk => hk.elim) (fun _ _ => trivial) ?q4 ?q5 ?q6 ?_)
    case q1 => exact ⟨fun _ _ => trivial, [], World.ownsRow_made w #[] 0 (Nat.le_refl _) (Nat.zero_le _) (by simp), Reps.none _ _⟩
    case q2 => exact HR.out.imp_ (below_alloc (Below.refl _ _) _) (fun _ _ h => h)
    case q3 => intro x cs hk; exact hk
    case q4 => exact below_alloc (Below.refl _ _) _
    case q5 => simp
    case q6 => simp; omega
    intro v1 w1 ho hb hg hat
    obtain ⟨A1, c1, rfl⟩ := Kd.R_slice ho
    have HO1 := As.mk ho
    have HB1 := As.mk hb
    clear ho hb hg hat
    go_wp2
    go_ret
    exact ⟨_, rfl, HO1.out, HB1.out⟩
theorem cut_C {w : World} {B : Option Addr} {d : Nat} {b : List Int} {p q : Nat} (hr : Kd.C (Kd.int .i64) w B b.length b) (hc : b.length ≤ d) (h1 : p ≤ q) (h2 : q ≤ b.length) :
    ∃ B', (∀ W : World, (Instr.slice 33 (.slice B b.length d) (some (.int .i64 (p : Int))) (some (.int .i64 (q : Int))) none).run Try.prog W = .ok (.slice B' (q - p) (d - p)) W) ∧ Kd.C (Kd.int .i64) w B' (q - p) (cutB b p q) := by
  have hl : (cutB b p q).length = q - p := by simp [cutB]; omega
  have h := Kd.C_mid (k := Kd.int .i64) (xs := b) hr h1 h2 hc
  have hel : Try.prog.elem 33 = 3 := by simp [Program.elem, Try.underlying33]
  refine ⟨if d = p then B else B.map (·.add (p * 1)), fun W => ?_, ?_⟩
  · rw [run_slice_lh W 33 B b.length d (by rw [hel]; exact Try.underlying33) .i64 .i64 (p : Int) (q : Int) (by omega) (by omega) (by omega), hel]
    simp [Try.sizeOf3, sliced, Result.andThen]
  · have e : (List.drop p (List.take q b)).length = q - p := hl
    rw [e] at h
    exact h

theorem oneW_same (b : List Int) (i k : Nat) : oneW b i k i k = [] := by simp [oneW]
theorem oneW_other (b : List Int) {fi fk i k : Nat} (h : ¬ (i = fi ∧ k = fk)) : oneW b fi fk i k = [⟨fi, i, cutB b fk k⟩] := by simp [oneW, h]
/-- The walk's box for what is told: block ob; from where: block fb. -/
structure EW (w0 w : World) (fb ob : Nat) (fi fk : Nat) (xs : List S43) (v : Value) : Prop where
  below : Below w0.heap.size w0 w
  from_ : w.heap[fb]? = some (.cells #[.int .i64 fi, .int .i64 fk] 81 (0, 0))
  out : w.heap[ob]? = some (.cells #[v] 40 (0, 0))
  lo : w0.heap.size ≤ ob
  lf : w0.heap.size ≤ fb
  rows : Kd.R k43 43 w w0.heap.size (fun _ => True) v xs
theorem EW.next {w0 w w' : World} {fb ob fi fk : Nat} {xs : List S43} {v : Value} (h : EW w0 w fb ob fi fk xs v) (hb : Below w.heap.size w w') : EW w0 w' fb ob fi fk xs v :=
  ⟨bt_ h.below hb, (hb.block _ (Array.getElem?_eq_some_iff.1 h.from_).1).trans h.from_, (hb.block _ (Array.getElem?_eq_some_iff.1 h.out).1).trans h.out, h.lo, h.lf, Kd.R_below h.rows hb⟩
theorem EW.told {w0 w w' : World} {fb ob fi fk : Nat} {xs ys : List S43} {v v1 : Value} (h : EW w0 w fb ob fi fk xs v) (hg : w.grownBy w' v.ownBlock) (hb : Below w0.heap.size w0 w') (hr : Kd.R k43 43 w' w0.heap.size (fun _ => True) v1 ys) : EW w0 (w'.setCell ⟨ob, 0, none⟩ v1) fb ob fi fk ys v1 := by
  have ho := blk_grown h.out hg (Kd.R_ne h.rows h.out (by decide))
  have hf := blk_grown h.from_ hg (Kd.R_ne h.rows h.from_ (by decide))
  exact ⟨hb.setCell (p := ⟨ob, 0, none⟩) h.lo _, blk_far hf (p := ⟨ob, 0, none⟩) (fun e => by
    have e : fb = ob := e
    subst e
    have := hf.symm.trans ho
    simp at this) _, blk_set ho 0 v1, h.lo, h.lf, Kd.R_set hr ho (by decide) 0 v1⟩
set_option maxRecDepth 100000 in
theorem ends_any {w0 w : World} {fb ob bb i k fi fk : Nat} {B : Option Addr} {d : Nat} {b : List Int} {v : Value} {xs : List S43} (h : EW w0 w fb ob fi fk xs v) (hbc : w0.cell? ⟨bb, 0, none⟩ = some (.slice B b.length d))
    (hr1 : Kd.C (Kd.int .i64) w0 B b.length b) (hc1 : b.length ≤ d) (h1 : fk ≤ k) (h2 : k ≤ b.length) (hb : b.length ≤ 500) (hx : xs.length ≤ 1000) :
    Calls Try.prog 44 #[.agg #[.int .i64 i, .int .i64 k], .pointer (some ⟨fb, 0, none⟩), .pointer (some ⟨ob, 0, none⟩), .pointer (some ⟨bb, 0, none⟩)] w fun e w' => ∃ v1, e = .returned (.tuple #[]) ∧ EW w0 w' fb ob fi fk (xs ++ oneW b fi fk i k) v1 ∧ KeepBut w w' ob v.ownBlock := by
  have HE := As.mk h
  have HC1 := As.mk hc1
  have HR1 := As.mk hr1
  have c0 : w.cell? ⟨fb, 0, none⟩ = some (.int .i64 fi) := by simp only [World.cell?, h.from_]; rfl
  have c1 : w.cell? ⟨fb, 1, none⟩ = some (.int .i64 fk) := by simp only [World.cell?, h.from_]; rfl
  have c2 : w.cell? ⟨ob, 0, none⟩ = some v := by simp only [World.cell?, h.out]; rfl
  have c3 : w.cell? ⟨bb, 0, none⟩ = some (.slice B b.length d) := pw_cell_below h.below hbc
  have l0 : fb < w.heap.size := World.block_lt_of_cell? w _ c0
  have l2 : ob < w.heap.size := World.block_lt_of_cell? w _ c2
  have l3 : bb < w.heap.size := World.block_lt_of_cell? w _ c3
  have l4 : bb < w0.heap.size := World.block_lt_of_cell? w0 _ hbc
  clear h hr1 hc1 hbc
  by_cases he : i = fi ∧ k = fk
  · obtain ⟨rfl, rfl⟩ := he
    have e1 : ((i : Int) == (i : Int)) = true := by simp
    go_enter Try.func44, Try.ntmps44
    go_wp2
    go_end0
    exact ⟨v, rfl, by rw [oneW_same, List.append_nil]; exact HE.out.next (below_alloc (Below.refl _ _) _), KeepBut.of_below (below_alloc (Below.refl _ _) _) _ _⟩
  · have HX := As.mk (oneW_other b he)
    have hd : ((i : Int) == (fi : Int)) = false ∨ (((i : Int) == (fi : Int)) = true ∧ ((k : Int) == (fk : Int)) = false) := by
      by_cases hi : i = fi
      · exact .inr ⟨by simp; omega, by simp; omega⟩
      · exact .inl (by simp; omega)
    rcases hd with e1 | ⟨e1, e2⟩
    all_goals
      go_enter Try.func44, Try.ntmps44
      go_wp2
      have hh : (w.alloc (.cells #[.int .i64 i, .int .i64 k] 81)).heap[w.heap.size]? = some (.cells #[.int .i64 i, .int .i64 k] 81 (0, 0)) := (Go.MapKept.heap_alloc _ _).1
      have p0 : (w.alloc (.cells #[.int .i64 i, .int .i64 k] 81)).cell? ⟨w.heap.size, 0, none⟩ = some (.int .i64 i) := by simp only [World.cell?, hh]; rfl
      have p1 : (w.alloc (.cells #[.int .i64 i, .int .i64 k] 81)).cell? ⟨w.heap.size, 1, none⟩ = some (.int .i64 k) := by simp only [World.cell?, hh]; rfl
      have HP := As.mk hh
      have HK := As.mk (below_alloc (Below.refl w.heap.size w) (.cells #[.int .i64 i, .int .i64 k] 81))
      have HE1 := As.mk (HE.out.next HK.out)
      have d0 := pw_cell_below HK.out c0
      have d1 := pw_cell_below HK.out c1
      have d2 := pw_cell_below HK.out c2
      have d3 := pw_cell_below HK.out c3
      clear hh c0 c1 c2 c3
      generalize w.alloc (.cells #[.int .i64 i, .int .i64 k] 81) = w1 at HP HK HE1 d0 d1 d2 d3 p0 p1 ⊢
      obtain ⟨B', hcut, hcutC⟩ := cut_C (HR1.out) HC1.out h1 h2
      have HCC := As.mk hcutC
      have hlen : (cutB b fk k).length = k - fk := by simp [cutB]; omega
      have HL := As.mk hlen
      clear hcutC hlen
      have i0 : (0 : Int) ≤ (fk : Int) := by omega
      refine start_ (n := 16) (S := fun w' => w'.cell? ⟨ob, 0, none⟩ = some v ∧ w'.cell? ⟨fb, 0, none⟩ = some (.int .i64 fi) ∧ w'.cell? ⟨fb, 1, none⟩ = some (.int .i64 fk) ∧ w'.cell? ⟨w.heap.size, 0, none⟩ = some (.int .i64 i) ∧ w'.cell? ⟨w.heap.size, 1, none⟩ = some (.int .i64 k) ∧ w'.cell? ⟨bb, 0, none⟩ = some (.slice B b.length d)) (ds := [15]) #[false, false, false, false, false, false, false, false, false, false, false, false, false, false, false, false] (by kernel_rfl) rfl rfl (⟨d2, d0, d1, p0, p1, d3⟩) (fun hHeld => ?_)
      have HE7 := As.mk (HE1.out.next (below_drew1 (Below.refl _ _))); have HK7 := As.mk (below_drew1 HK.out); have HP7 : As (w1.drew.heap[w.heap.size]? = some (.cells #[.int .i64 i, .int .i64 k] 81 (0, 0))) := As.mk HP.out; clear HE HE1 HK HP d0 d1 d2 d3 p0 p1; generalize w1.drew = w7 at HE7 HK7 HP7 hHeld ⊢
      refine pure_ (i := 1) (N := some 9) (v := ?_) (a' := ?_) #[false, true, false, false, false, false, false, false, false, false, false, false, false, false, false, false] rfl rfl (by kernel_rfl) (fun _ _ _ h => h) (Or.inl ⟨by rfl, ?_⟩) ?_ ?_
      rotate_left
      · intro w'
        go_simp
        with_reducible rfl
      rotate_left
      · simp only [Act.put, List.setIfInBounds_toArray, List.set_cons_zero, List.set_cons_succ, i64_w, i32_w]
        rfl
      refine pure_ (i := 3) (N := some 11) (v := ?_) (a' := ?_) #[false, true, false, true, false, false, false, false, false, false, false, false, false, false, false, false] rfl rfl (by kernel_rfl) (fun _ _ _ h => h) (Or.inl ⟨by rfl, ?_⟩) ?_ ?_
      rotate_left
      · intro w'
        go_simp
        with_reducible rfl
      rotate_left
      · simp only [Act.put, List.setIfInBounds_toArray, List.set_cons_zero, List.set_cons_succ, i64_w, i32_w]
        rfl
      refine pure_ (i := 6) (N := some 14) (v := ?_) (a' := ?_) #[false, true, false, true, false, false, true, false, false, false, false, false, false, false, false, false] rfl rfl (by kernel_rfl) (fun _ _ _ h => h) (Or.inl ⟨by rfl, ?_⟩) ?_ ?_
      rotate_left
      · intro w'
        go_simp
        with_reducible rfl
      rotate_left
      · simp only [Act.put, List.setIfInBounds_toArray, List.set_cons_zero, List.set_cons_succ, i64_w, i32_w]
        rfl
      refine pure_ (i := 8) (N := some 16) (v := ?_) (a' := ?_) #[false, true, false, true, false, false, true, false, true, false, false, false, false, false, false, false] rfl rfl (by kernel_rfl) (fun _ _ _ h => h) (Or.inl ⟨by rfl, ?_⟩) ?_ ?_
      rotate_left
      · intro w'
        go_simp
        with_reducible rfl
      rotate_left
      · simp only [Act.put, List.setIfInBounds_toArray, List.set_cons_zero, List.set_cons_succ, i64_w, i32_w]
        rfl
      refine take_ (i := 0) (N := some 8) (v := ?_) (a' := ?_) #[true, true, false, true, false, false, true, false, true, false, false, false, false, false, false, false] rfl rfl (by kernel_rfl) (fun _ _ _ h => h) (Or.inl ⟨by rfl, ?_⟩) hHeld ?_ ?_
      rotate_left
      · intro w' hS'
        obtain ⟨s0, s1, s2, s3, s4, s5⟩ := hS'
        go_simp
        with_reducible rfl
      rotate_left
      · simp only [Act.put, List.setIfInBounds_toArray, List.set_cons_zero, List.set_cons_succ, i64_w, i32_w]
        rfl
      refine take_ (i := 2) (N := some 10) (v := ?_) (a' := ?_) #[true, true, true, true, false, false, true, false, true, false, false, false, false, false, false, false] rfl rfl (by kernel_rfl) (fun _ _ _ h => h) (Or.inl ⟨by rfl, ?_⟩) hHeld ?_ ?_
      rotate_left
      · intro w' hS'
        obtain ⟨s0, s1, s2, s3, s4, s5⟩ := hS'
        go_simp
        with_reducible rfl
      rotate_left
      · simp only [Act.put, List.setIfInBounds_toArray, List.set_cons_zero, List.set_cons_succ, i64_w, i32_w]
        rfl
      refine take_ (i := 4) (N := some 12) (v := ?_) (a' := ?_) #[true, true, true, true, true, false, true, false, true, false, false, false, false, false, false, false] rfl rfl (by kernel_rfl) (fun _ _ _ h => h) (Or.inl ⟨by rfl, ?_⟩) hHeld ?_ ?_
      rotate_left
      · intro w' hS'
        obtain ⟨s0, s1, s2, s3, s4, s5⟩ := hS'
        go_simp
        with_reducible rfl
      rotate_left
      · simp only [Act.put, List.setIfInBounds_toArray, List.set_cons_zero, List.set_cons_succ, i64_w, i32_w]
        rfl
      refine take_ (i := 5) (N := some 13) (v := ?_) (a' := ?_) #[true, true, true, true, true, true, true, false, true, false, false, false, false, false, false, false] rfl rfl (by kernel_rfl) (fun _ _ _ h => h) (Or.inl ⟨by rfl, ?_⟩) hHeld ?_ ?_
      rotate_left
      · intro w' hS'
        obtain ⟨s0, s1, s2, s3, s4, s5⟩ := hS'
        go_simp
        with_reducible rfl
      rotate_left
      · simp only [Act.put, List.setIfInBounds_toArray, List.set_cons_zero, List.set_cons_succ, i64_w, i32_w]
        rfl
      refine take_ (i := 7) (N := some 15) (v := ?_) (a' := ?_) #[true, true, true, true, true, true, true, true, true, false, false, false, false, false, false, false] rfl rfl (by kernel_rfl) (fun _ _ _ h => h) (Or.inl ⟨by rfl, ?_⟩) hHeld ?_ ?_
      rotate_left
      · intro w' hS'
        obtain ⟨s0, s1, s2, s3, s4, s5⟩ := hS'
        go_simp
        with_reducible rfl
      rotate_left
      · simp only [Act.put, List.setIfInBounds_toArray, List.set_cons_zero, List.set_cons_succ, i64_w, i32_w]
        rfl
      refine take_ (i := 9) (N := some 17) (v := ?_) (a' := ?_) #[true, true, true, true, true, true, true, true, true, true, false, false, false, false, false, false] rfl rfl (by kernel_rfl) (fun _ _ _ h => h) (Or.inl ⟨by rfl, ?_⟩) hHeld ?_ ?_
      rotate_left
      · intro w' hS'
        obtain ⟨s0, s1, s2, s3, s4, s5⟩ := hS'
        go_simp
        with_reducible rfl
      rotate_left
      · simp only [Act.put, List.setIfInBounds_toArray, List.set_cons_zero, List.set_cons_succ, i64_w, i32_w]
        rfl
      refine pure_ (i := 10) (N := some 18) (v := ?_) (a' := ?_) #[true, true, true, true, true, true, true, true, true, true, true, false, false, false, false, false] rfl rfl (by kernel_rfl) (fun _ _ _ h => h) (Or.inl ⟨by rfl, ?_⟩) ?_ ?_
      rotate_left
      · intro w'
        go_simp
        with_reducible rfl
      rotate_left
      · simp only [Act.put, List.setIfInBounds_toArray, List.set_cons_zero, List.set_cons_succ, i64_w, i32_w]
        rfl
      refine one_ (i := 11) (N := some 19) #[true, true, true, true, true, true, true, true, true, true, true, true, false, false, false, false] rfl rfl (by kernel_rfl) (by decide) (fun K hK => ?_)
      refine goes_ Try.func42 (by kernel_rfl) rfl #[.slice B' (k - fk) (d - fk)] (by rfl) rfl rfl (by simp [Act.eval]) ?_
      have hcl := cloneI_any B' (d - fk) (cutB b fk k) w7 (by rw [HL.out]; exact Kd.C_below HCC.out HE7.out.below) (by rw [HL.out]; omega)
      rw [HL.out] at hcl
      refine hcl.mono ?_
      clear hcl
      rintro e w8 ⟨v2, rfl, ho2, hb8⟩
      refine ⟨v2, rfl, ?_⟩
      obtain ⟨A2, c2, rfl⟩ := Kd.R_slice ho2
      have HO2 := As.mk ho2
      have HB8 := As.mk hb8
      clear ho2
      obtain ⟨hh0, hh1, hh2, hh3, hh4, hh5⟩ := hHeld
      refine hK.out _ _ ⟨pw_cell_below hb8 hh0, pw_cell_below hb8 hh1, pw_cell_below hb8 hh2, pw_cell_below hb8 hh3, pw_cell_below hb8 hh4, pw_cell_below hb8 hh5⟩ (fun hHeld => ?_)
      clear hK K hh0 hh1 hh2 hh3 hh4 hh5 hb8
      refine norm_ (a' := ?_) ?_ ?_
      rotate_left
      · (simp only [Act.put, List.setIfInBounds_toArray, List.set_cons_zero, List.set_cons_succ]; rfl)
      refine pure_ (i := 12) (N := some 20) (v := ?_) (a' := ?_) #[true, true, true, true, true, true, true, true, true, true, true, true, true, false, false, false] rfl rfl (by kernel_rfl) (fun _ _ _ h => h) (Or.inl ⟨by rfl, ?_⟩) ?_ ?_
      rotate_left
      · intro w'
        go_simp
        with_reducible rfl
      rotate_left
      · simp only [Act.put, List.setIfInBounds_toArray, List.set_cons_zero, List.set_cons_succ, i64_w, i32_w]
        rfl
      refine one_ (i := 13) (N := some 21) #[true, true, true, true, true, true, true, true, true, true, true, true, true, true, false, false] rfl rfl (by kernel_rfl) (by decide) (fun K hK => ?_)
      refine value_ (w1 := w8.alloc (.cells #[.int .i64 fi, .int .i64 i, .slice A2 (cutB b fk k).length c2] 43)) (v := .slice (some ⟨w8.heap.size, 0, none⟩) 1 1) (by rfl) rfl ?_ ?_
      · first | (go_simp; done) | (go_simp; rfl)
      refine hK.out _ _ (by obtain ⟨hh0, hh1, hh2, hh3, hh4, hh5⟩ := hHeld; exact ⟨pw_cell_below (below_alloc (Below.refl _ _) _) hh0, pw_cell_below (below_alloc (Below.refl _ _) _) hh1, pw_cell_below (below_alloc (Below.refl _ _) _) hh2, pw_cell_below (below_alloc (Below.refl _ _) _) hh3, pw_cell_below (below_alloc (Below.refl _ _) _) hh4, pw_cell_below (below_alloc (Below.refl _ _) _) hh5⟩) (fun hHeld => ?_)
      clear hK K
      refine norm_ (a' := ?_) ?_ ?_
      rotate_left
      · (simp only [Act.put, List.setIfInBounds_toArray, List.set_cons_zero, List.set_cons_succ]; rfl)
      refine one_ (i := 14) (N := some 22) #[true, true, true, true, true, true, true, true, true, true, true, true, true, true, true, false] rfl rfl (by kernel_rfl) (by decide) (fun K hK => ?_)
      refine Kd.R_append_step k43 (w0 := w0) w0.heap.size (by rfl) (.tmp 8) (.tmp 21) 40 43 (.agg #[.int .i64 0, .int .i64 0, .slice none 0 0]) 40 rfl Try.underlying40 info_ed rfl (by decide) (by omega) v xs ⟨fi, i, cutB b fk k⟩ [.int .i64 fi, .int .i64 i, .slice A2 (cutB b fk k).length c2] (fun _ => True) (fun q => w7.heap.size ≤ q) (by rfl) (by rfl) (k43_mkM _ _ _ _ (Kd.R_lower (Kd.R_mono (Kd.R_bound HO2.out) (fun q hq => hq.2.1)) HE7.out.below.size)) (fun q hq => ⟨trivial, fun he => absurd (Kd.R_lt HE7.out.rows q he.symm) (by omega)⟩) (fun _ _ => trivial) (Kd.R_below HE7.out.rows HB8.out) (bt_ HE7.out.below HB8.out) (Nat.le_trans HE7.out.below.size HB8.out.size) (by omega) ?_
      intro v1 w9 ho hb9 hg hat
      obtain ⟨A9, c9, rfl⟩ := Kd.R_slice ho
      have HE8 := As.mk (HE7.out.next HB8.out)
      have HB9 := As.mk hb9
      have HG9 := As.mk hg
      have HO9 := As.mk ho
      clear ho hb9 hg hat
      obtain ⟨hh0, hh1, hh2, hh3, hh4, hh5⟩ := hHeld
      have hw8 : w.heap.size < w8.heap.size := Nat.lt_of_lt_of_le (blk_lt HP7.out) HB8.out.size
      have hn0 : some ob ≠ v.ownBlock := Kd.R_ne HE8.out.rows HE8.out.out (by decide)
      have hn1 : some fb ≠ v.ownBlock := Kd.R_ne HE8.out.rows HE8.out.from_ (by decide)
      have hn2 : some w.heap.size ≠ v.ownBlock := Kd.R_ne HE8.out.rows ((HB8.out.block _ (blk_lt HP7.out)).trans HP7.out) (by decide)
      have hn3 : some bb ≠ v.ownBlock := fun he => absurd (Kd.R_base HE8.out.rows bb he.symm) (by omega)
      have HN := As.mk (And.intro hn0 (And.intro hn1 (And.intro hn2 hn3)))
      clear hn0 hn1 hn2 hn3
      refine hK.out _ _ ⟨cell_grown HG9.out (cell_unalloc hh0 (by have := HK7.out.size; have := HB8.out.size; show ob < _; omega)) HN.out.1, cell_grown HG9.out (cell_unalloc hh1 (by have := HK7.out.size; have := HB8.out.size; show fb < _; omega)) HN.out.2.1, cell_grown HG9.out (cell_unalloc hh2 (by have := HK7.out.size; have := HB8.out.size; show fb < _; omega)) HN.out.2.1, cell_grown HG9.out (cell_unalloc hh3 (by show w.heap.size < _; omega)) HN.out.2.2.1, cell_grown HG9.out (cell_unalloc hh4 (by show w.heap.size < _; omega)) HN.out.2.2.1, cell_grown HG9.out (cell_unalloc hh5 (by have := HK7.out.size; have := HB8.out.size; show bb < _; omega)) HN.out.2.2.2⟩ (fun hHeld => ?_)
      clear hK K hh0 hh1 hh2 hh3 hh4 hh5
      refine norm_ (a' := ?_) ?_ ?_
      rotate_left
      · (simp only [Act.put, List.setIfInBounds_toArray, List.set_cons_zero, List.set_cons_succ]; rfl)
      refine last_ (i := 15) (N := none) #[true, true, true, true, true, true, true, true, true, true, true, true, true, true, true, true] rfl rfl (by kernel_rfl) (by decide) (fun K hK => ?_)
      have hfz := blk_frozen (blk_grown HE8.out.out HG9.out HN.out.1) 0
      obtain ⟨hh0, hh1, hh2, hh3, hh4, hh5⟩ := hHeld
      refine skip_ (w1 := w9.setCell ⟨ob, 0, none⟩ (.slice A9 (xs ++ [(⟨fi, i, cutB b fk k⟩ : S43)]).length c9)) (by rfl) rfl ?_ ?_
      · first | (go_simp; done) | (go_simp; rfl)
      refine hK.out _ _ ?_
      clear hK K
      refine done_ (by kernel_rfl) ?_
      go_wp2
      go_end0
      exact ⟨_, rfl, by rw [HX.out]; exact HE8.out.told HG9.out HB9.out HO9.out, ((KeepBut.of_below (HK7.out.trans (HB8.out.mono HK7.out.size)) ob _).trans (KeepBut.of_grown HG9.out ob) (.inl rfl)).set_ 0 _⟩
end Go.Proofs.Ytphdbombgljamaa.Df
