/- The windows that make one list of another one: the walk; no condition but the lists' lengths. -/
import Derived.Test.YtphdbombgljamaaDiffW
namespace Go.Proofs.Ytphdbombgljamaa.Df
open Go.RowKit Go.Proofs.YtphdbombgljamaaW.PrintWords Go.Proofs.YtphdbombgljamaaW.PrintLast Go.Proofs.YtphdbombgljamaaW.PrintMore Go.Proofs.Ytphdbombgljamaa.Rf Go.Proofs.Ytphdbombgljamaa.Aid
set_option linter.unusedVariables false
set_option linter.unusedSimpArgs false
set_option maxHeartbeats 400000

/-- what the program answers -/
def winP (a b : List Int) : List S43 := if a.length ≤ 500 ∧ b.length ≤ 500 then winF a b 0 0 (pairs a b) else if a = b then [] else [⟨0, a.length, b⟩]
theorem winF_len (a b : List Int) : ∀ (l : List (Nat × Nat)) (i k fi fk : Nat), Up a b i k l → (winF a b fi fk l).length ≤ (a.length - i) + 1
  | [], i, k, fi, fk, h => by unfold winF oneW; split <;> simp
  | (p, q) :: l, i, k, fi, fk, h => by
    obtain ⟨h1, h2, ⟨h3, h4, _⟩, h5⟩ := h
    have := winF_len a b l (p + 1) (q + 1) (p + 1) (q + 1) h5
    unfold winF
    rw [List.length_append]
    have : (oneW b fi fk p q).length ≤ 1 := by unfold oneW; split <;> simp
    omega
theorem oneW_len (b : List Int) (fi fk i k : Nat) : (oneW b fi fk i k).length ≤ 1 := by unfold oneW; split <;> simp
theorem step_up {a b : List Int} {i k i1 k1 : Nat} {st : Bool} (hs : stepP a b i k = (i1, k1, st)) : i ≤ i1 ∧ k ≤ k1 := by
  unfold stepP at hs
  split at hs
  · injection hs with e1 e2; injection e2 with e2 e3; omega
  · split at hs
    · injection hs with e1 e2; injection e2 with e2 e3; omega
    · injection hs with e1 e2; injection e2 with e2 e3; omega
/-- The walk's state: the table's box, what is told, from where, where it stands. -/
structure VW (w3 W : World) (vA vB vG : Value) (i k fi fk : Nat) (xs : List S43) (v : Value) : Prop where
  ew : EW w3 W (w3.heap.size + 2) (w3.heap.size + 1) fi fk xs v
  st : W.heap[w3.heap.size + 3]? = some (.cells #[.int .i64 i, .int .i64 k] 81 (0, 0))
  tb : W.heap[w3.heap.size]? = some (.cells #[vA, vB, vG] 78 (0, 0))
theorem VW.next {w3 W W' : World} {vA vB vG : Value} {i k fi fk : Nat} {xs : List S43} {v : Value} (h : VW w3 W vA vB vG i k fi fk xs v) (hb : Below W.heap.size W W') : VW w3 W' vA vB vG i k fi fk xs v :=
  ⟨h.ew.next hb, (hb.block _ (blk_lt h.st)).trans h.st, (hb.block _ (blk_lt h.tb)).trans h.tb⟩
theorem set2 {W : World} {g t : Nat} {x y x' y' : Value} (h : W.heap[g]? = some (.cells #[x, y] t (0, 0))) : ((W.setCell ⟨g, 0, none⟩ x').setCell ⟨g, 1, none⟩ y').heap[g]? = some (.cells #[x', y'] t (0, 0)) := blk_set (blk_set h 0 x') 1 y'
theorem far2 {W : World} {g g' : Nat} {o : Obj} {x' y' : Value} (hne : g' ≠ g) (h : W.heap[g']? = some o) : ((W.setCell ⟨g, 0, none⟩ x').setCell ⟨g, 1, none⟩ y').heap[g']? = some o :=
  (Below.heap_setCell _ ⟨g, 1, none⟩ _ g' hne).trans ((Below.heap_setCell _ ⟨g, 0, none⟩ _ g' hne).trans h)
theorem VW.set_from {w3 W : World} {vA vB vG : Value} {i k fi fk : Nat} {xs : List S43} {v : Value} (h : VW w3 W vA vB vG i k fi fk xs v) (fi' fk' : Nat) : VW w3 ((W.setCell ⟨w3.heap.size + 2, 0, none⟩ (.int .i64 fi')).setCell ⟨w3.heap.size + 2, 1, none⟩ (.int .i64 fk')) vA vB vG i k fi' fk' xs v :=
  ⟨⟨(h.ew.below.setCell (p := ⟨w3.heap.size + 2, 0, none⟩) (by show w3.heap.size ≤ w3.heap.size + 2; omega) _).setCell (p := ⟨w3.heap.size + 2, 1, none⟩) (by show w3.heap.size ≤ w3.heap.size + 2; omega) _, set2 h.ew.from_, far2 (by omega) h.ew.out, h.ew.lo, h.ew.lf, Kd.R_set (Kd.R_set h.ew.rows h.ew.from_ (by decide) 0 _) (blk_set h.ew.from_ 0 _) (by decide) 1 _⟩, far2 (by omega) h.st, far2 (by omega) h.tb⟩
theorem VW.set_at {w3 W : World} {vA vB vG : Value} {i k fi fk : Nat} {xs : List S43} {v : Value} (h : VW w3 W vA vB vG i k fi fk xs v) (i' k' : Nat) : VW w3 ((W.setCell ⟨w3.heap.size + 3, 0, none⟩ (.int .i64 i')).setCell ⟨w3.heap.size + 3, 1, none⟩ (.int .i64 k')) vA vB vG i' k' fi fk xs v :=
  ⟨⟨(h.ew.below.setCell (p := ⟨w3.heap.size + 3, 0, none⟩) (by show w3.heap.size ≤ w3.heap.size + 3; omega) _).setCell (p := ⟨w3.heap.size + 3, 1, none⟩) (by show w3.heap.size ≤ w3.heap.size + 3; omega) _, far2 (by omega) h.ew.from_, far2 (by omega) h.ew.out, h.ew.lo, h.ew.lf, Kd.R_set (Kd.R_set h.ew.rows h.st (by decide) 0 _) (blk_set h.st 0 _) (by decide) 1 _⟩, set2 h.st, far2 (by omega) h.tb⟩
theorem VW.told {w3 W W' : World} {vA vB vG : Value} {i k fi fk : Nat} {xs ys : List S43} {v v1 : Value} (h : VW w3 W vA vB vG i k fi fk xs v) (he : EW w3 W' (w3.heap.size + 2) (w3.heap.size + 1) fi fk ys v1) (hk : KeepBut W W' (w3.heap.size + 1) v.ownBlock) : VW w3 W' vA vB vG i k fi fk ys v1 :=
  ⟨he, hk.blk h.st (by omega) (Kd.R_ne h.ew.rows h.st (by decide)), hk.blk h.tb (by omega) (Kd.R_ne h.ew.rows h.tb (by decide))⟩
theorem vw0 (w3 : World) (vA vB vG : Value) : VW w3 ((((w3.alloc (.cells #[vA, vB, vG] 78)).alloc (.cells #[.slice none 0 0] 40)).alloc (.cells #[.int .i64 0, .int .i64 0] 81)).alloc (.cells #[.int .i64 0, .int .i64 0] 81)) vA vB vG 0 0 0 0 [] (.slice none 0 0) := by
  obtain ⟨a1, h1⟩ : ∃ a1, a1 = w3.alloc (.cells #[vA, vB, vG] 78) := ⟨_, rfl⟩
  obtain ⟨a2, h2⟩ : ∃ a2, a2 = a1.alloc (.cells #[.slice none 0 0] 40) := ⟨_, rfl⟩
  obtain ⟨a3, h3⟩ : ∃ a3, a3 = a2.alloc (.cells #[.int .i64 0, .int .i64 0] 81) := ⟨_, rfl⟩
  obtain ⟨a4, h4⟩ : ∃ a4, a4 = a3.alloc (.cells #[.int .i64 0, .int .i64 0] 81) := ⟨_, rfl⟩
  have s1 : a1.heap.size = w3.heap.size + 1 := by rw [h1, size_alloc]
  have s2 : a2.heap.size = w3.heap.size + 2 := by rw [h2, size_alloc, s1]
  have s3 : a3.heap.size = w3.heap.size + 3 := by rw [h3, size_alloc, s2]
  have b1 : Below w3.heap.size w3 a1 := by rw [h1]; exact below_alloc (Below.refl _ _) _
  have b2 : Below a1.heap.size a1 a2 := by rw [h2]; exact below_alloc (Below.refl _ _) _
  have b3 : Below a2.heap.size a2 a3 := by rw [h3]; exact below_alloc (Below.refl _ _) _
  have b4 : Below a3.heap.size a3 a4 := by rw [h4]; exact below_alloc (Below.refl _ _) _
  have e1 : a1.heap[w3.heap.size]? = some (.cells #[vA, vB, vG] 78 (0, 0)) := by rw [h1]; exact (Go.MapKept.heap_alloc _ _).1
  have e2 : a2.heap[w3.heap.size + 1]? = some (.cells #[.slice none 0 0] 40 (0, 0)) := by rw [h2, ← s1]; exact (Go.MapKept.heap_alloc _ _).1
  have e3 : a3.heap[w3.heap.size + 2]? = some (.cells #[.int .i64 0, .int .i64 0] 81 (0, 0)) := by rw [h3, ← s2]; exact (Go.MapKept.heap_alloc _ _).1
  have e4 : a4.heap[w3.heap.size + 3]? = some (.cells #[.int .i64 0, .int .i64 0] 81 (0, 0)) := by rw [h4, ← s3]; exact (Go.MapKept.heap_alloc _ _).1
  rw [← h1, ← h2, ← h3, ← h4]
  exact ⟨⟨bt_ (bt_ (bt_ b1 b2) b3) b4, (b4.block _ (by omega)).trans e3, (b4.block _ (by omega)).trans ((b3.block _ (by omega)).trans e2), by omega, by omega, Kd.R_nil _ _ _ _ _⟩, e4, (b4.block _ (by omega)).trans ((b3.block _ (by omega)).trans ((b2.block _ (by omega)).trans e1))⟩
set_option maxRecDepth 100000 in
set_option maxHeartbeats 1000000 in
theorem windows_few {A : Option Addr} {c : Nat} {a : List Int} {B : Option Addr} {d : Nat} {b : List Int} {w : World} (hr0 : Kd.C (Kd.int .i64) w A a.length a) (hc0 : a.length ≤ c) (hr1 : Kd.C (Kd.int .i64) w B b.length b) (hc1 : b.length ≤ d) (ha : a.length ≤ 500) (hb : b.length ≤ 500) :
    Calls Try.prog 21 #[.slice A a.length c, .slice B b.length d] w fun e w' => ∃ v, e = .returned v ∧ Kd.R k43 43 w' w.heap.size (fun _ => True) v (winF a b 0 0 (pairs a b)) ∧ Below w.heap.size w w' := by
  have HR0 := As.mk hr0
  have HR1 := As.mk hr1
  have HC0 := As.mk hc0
  have HC1 := As.mk hc1
  clear hr0 hr1 hc0 hc1
  go_enter Try.func21, Try.ntmps21
  go_wp2_with fail
  have hh : (w.alloc (.cells #[.slice B b.length d] 33)).heap[w.heap.size]? = some (.cells #[.slice B b.length d] 33 (0, 0)) := (Go.MapKept.heap_alloc _ _).1
  have b0 : (w.alloc (.cells #[.slice B b.length d] 33)).cell? ⟨w.heap.size, 0, none⟩ = some (.slice B b.length d) := by simp only [World.cell?, hh]; rfl
  have HB1 := As.mk (below_alloc (Below.refl w.heap.size w) (.cells #[.slice B b.length d] 33))
  have hz1 : w.heap.size < (w.alloc (.cells #[.slice B b.length d] 33)).heap.size := by rw [size_alloc]; omega
  clear hh
  generalize w.alloc (.cells #[.slice B b.length d] 33) = w1 at HB1 b0 hz1 ⊢
  refine (few_any A c a B d b _ (Kd.C_below HR0.out HB1.out) HC0.out (Kd.C_below HR1.out HB1.out) HC1.out).mono ?_
  rw [decide_eq_true ⟨ha, hb⟩]
  rintro e w2 ⟨rfl, ⟨n1, rfl⟩⟩
  have HB2 := As.mk (pw_below_drewN HB1.out n1)
  have b2 : (w1.drewN n1).cell? ⟨w.heap.size, 0, none⟩ = some (.slice B b.length d) := by simpa using b0
  clear b0 HB1 hz1
  generalize w1.drewN n1 = w2 at HB2 b2 ⊢
  go_wp2_with fail
  refine (of_any A c a B d b _ (Kd.C_below HR0.out HB2.out) (Kd.C_below HR1.out HB2.out) ha hb).mono ?_
  rintro e w3 ⟨rfl, hT, hb3⟩
  have HB3 := As.mk (bt_ HB2.out hb3)
  have HT := As.mk (tab_C ha hb hT)
  have HR3 := As.mk (Kd.C_below HR1.out HB3.out)
  have HA3 := As.mk (Kd.C_below HR0.out HB3.out)
  have b3 := pw_cell_below hb3 b2
  have HBC := As.mk b3
  clear hT hb3 HB2 b2 b3
  generalize w2.heap.size + 1 = g at HT ⊢
  go_wp2_with fail
  simp only [Nat.add_assoc, Nat.reduceAdd]
  have HV := As.mk (vw0 w3 (.slice A a.length c) (.slice B b.length d) (.slice (some ⟨g, 0, none⟩) (a.length + 1) (a.length + 1)))
  generalize (((w3.alloc (.cells #[.slice A a.length c, .slice B b.length d, .slice (some ⟨g, 0, none⟩) (a.length + 1) (a.length + 1)] 78)).alloc (.cells #[.slice none 0 0] 40)).alloc (.cells #[.int .i64 0, .int .i64 0] 81)).alloc (.cells #[.int .i64 0, .int .i64 0] 81) = W0 at HV ⊢
  go_loopg [] (a.length + b.length) (fun k w' => ∃ (i j fi fk : Nat) (xs : List S43) (v : Value) (W : World), As (W = w') ∧ i ≤ a.length ∧ j ≤ b.length ∧ fk ≤ j ∧ As ((a.length - i) + (b.length - j) ≤ k) ∧ xs.length ≤ i ∧ As (VW w3 w' (.slice A a.length c) (.slice B b.length d) (.slice (some ⟨g, 0, none⟩) (a.length + 1) (a.length + 1)) i j fi fk xs v) ∧ As (xs ++ winF a b fi fk (go a b ((a.length - i) + (b.length - j)) i j) = winF a b 0 0 (pairs a b)))
  case atStart => exact ⟨0, 0, 0, 0, [], _, W0, ⟨rfl⟩, Nat.zero_le _, Nat.zero_le _, Nat.zero_le _, ⟨by omega⟩, Nat.zero_le _, HV, ⟨by simp [pairs]⟩⟩
  case round =>
    clear HV
    obtain ⟨i, j, fi, fk, xs, v, W, HW, hi, hj, hfk, HK, hxs, HV, HX⟩ := hrel
    have hW := HW.out
    subst hW
    clear HW
    have htb := HV.out.tb
    have hst := HV.out.st
    have t0 : W.cell? ⟨w3.heap.size, 0, none⟩ = some (.slice A a.length c) := by simp only [World.cell?, htb]; rfl
    have t1 : W.cell? ⟨w3.heap.size, 1, none⟩ = some (.slice B b.length d) := by simp only [World.cell?, htb]; rfl
    have t2 : W.cell? ⟨w3.heap.size, 2, none⟩ = some (.slice (some ⟨g, 0, none⟩) (a.length + 1) (a.length + 1)) := by simp only [World.cell?, htb]; rfl
    have s0 : W.cell? ⟨w3.heap.size + 3, 0, none⟩ = some (.int .i64 i) := by simp only [World.cell?, hst]; rfl
    have s1 : W.cell? ⟨w3.heap.size + 3, 1, none⟩ = some (.int .i64 j) := by simp only [World.cell?, hst]; rfl
    clear htb hst
    by_cases he : i = a.length ∧ j = b.length
    · obtain ⟨rfl, rfl⟩ := he
      go_wp2_with fail
      refine (end_any (Kd.C_below HA3.out HV.out.ew.below) HC0.out (Kd.C_below HR3.out HV.out.ew.below) HC1.out (Kd.C_below HT.out HV.out.ew.below) a.length b.length).mono ?_
      rw [decide_eq_true ⟨rfl, rfl⟩]
      rintro e w5 ⟨rfl, hb5⟩
      have HV5 := As.mk (HV.out.next hb5)
      replace s0 := pw_cell_below hb5 s0
      replace s1 := pw_cell_below hb5 s1
      clear t0 t1 t2 hb5 HV
      go_wp2_with fail
      refine (ends_any HV5.out.ew HBC.out HR3.out HC1.out hfk (Nat.le_refl _) hb (by omega)).mono ?_
      rintro e w6 ⟨v1, rfl, hE, hKB⟩
      obtain ⟨A6, n6, c6, rfl⟩ : ∃ A6 n6 c6, v1 = .slice A6 n6 c6 := by obtain ⟨A6, c6, h⟩ := Kd.R_slice hE.rows; exact ⟨A6, _, c6, h⟩
      have HE6 := As.mk hE
      have o0 : w6.cell? ⟨w3.heap.size + 1, 0, none⟩ = some (.slice A6 n6 c6) := by simp only [World.cell?, hE.out]; rfl
      clear hE hKB s0 s1 HV5
      go_wp2
      go_ret
      have hr := HE6.out.rows
      rw [go_end] at HX
      have hx : xs ++ oneW b fi fk a.length b.length = winF a b 0 0 (pairs a b) := HX.out
      rw [← hx]
      exact ⟨_, rfl, Kd.R_lower hr HB3.out.size, HB3.out.trans (HE6.out.below.mono HB3.out.size)⟩
    · obtain ⟨k1, rfl⟩ : ∃ k1, gk = k1 + 1 := ⟨gk - 1, by have := HK.out; omega⟩
      have HE := As.mk he
      clear he
      go_wp2_with fail
      refine (end_any (Kd.C_below HA3.out HV.out.ew.below) HC0.out (Kd.C_below HR3.out HV.out.ew.below) HC1.out (Kd.C_below HT.out HV.out.ew.below) i j).mono ?_
      rw [decide_eq_false HE.out]
      rintro e w5 ⟨rfl, hb5⟩
      have HV5 := As.mk (HV.out.next hb5)
      replace t0 := pw_cell_below hb5 t0
      replace t1 := pw_cell_below hb5 t1
      replace t2 := pw_cell_below hb5 t2
      replace s0 := pw_cell_below hb5 s0
      replace s1 := pw_cell_below hb5 s1
      clear hb5 HV
      go_wp2_with fail
      refine (next_any (Kd.C_below HA3.out HV5.out.ew.below) HC0.out (Kd.C_below HR3.out HV5.out.ew.below) HC1.out (Kd.C_below HT.out HV5.out.ew.below) ha hb hi hj HE.out).mono ?_
      obtain ⟨⟨i1, j1, st⟩, hstep⟩ : ∃ x, stepP a b i j = x := ⟨_, rfl⟩
      have hsc := go_here a b hi hj HE.out hstep
      rw [hstep]
      have HST := As.mk hsc
      have HUP := As.mk (step_up hstep)
      clear hstep hsc
      rintro e w6 ⟨rfl, hb6⟩
      have HV6 := As.mk (HV5.out.next hb6)
      replace s0 := pw_cell_below hb6 s0
      replace s1 := pw_cell_below hb6 s1
      clear t0 t1 t2 hb6 HV5
      have hlt : w3.heap.size + 3 < w6.heap.size := blk_lt HV6.out.st
      have hlt2 : w3.heap.size + 2 < w6.heap.size := by omega
      cases st with
      | true =>
        obtain ⟨q1, q2, q3, q4, q5⟩ := HST.out
        obtain ⟨rfl, rfl, h1, h2⟩ := q4 rfl
        rw [if_pos rfl] at q5
        have HG := As.mk (And.intro q3 q5)
        clear q1 q2 q3 q4 q5 HST
        go_wp2_with fail
        obtain ⟨w7, h7⟩ : ∃ w7, w7 = w6.alloc (.cells #[.int .i64 ((i : Int) + 1), .int .i64 ((j : Int) + 1)] 81) := ⟨_, rfl⟩
        rw [← h7]
        have hz7 : w7.heap.size = w6.heap.size + 1 := by rw [h7]; exact size_alloc _ _
        have HV7 := As.mk (show VW w3 w7 _ _ _ i j fi fk xs v from by rw [h7]; exact HV6.out.next (below_alloc (Below.refl _ _) _))
        have hn7 : w7.heap[w6.heap.size]? = some (.cells #[.int .i64 ((i : Int) + 1), .int .i64 ((j : Int) + 1)] 81 (0, 0)) := by rw [h7]; exact (Go.MapKept.heap_alloc _ _).1
        clear h7 s0 s1 HV6
        refine (ends_any (i := i) (k := j) HV7.out.ew HBC.out HR3.out HC1.out hfk (by omega) hb (by omega)).mono ?_
        rintro e w8 ⟨v1, rfl, hE, hKB⟩
        have HV8 := As.mk (HV7.out.told hE hKB)
        have hn8 := hKB.blk hn7 (by omega) (Kd.R_ne HV7.out.ew.rows hn7 (by decide))
        have n0 : w8.cell? ⟨w6.heap.size, 0, none⟩ = some (.int .i64 ((i : Int) + 1)) := by simp only [World.cell?, hn8]; rfl
        have n1 : w8.cell? ⟨w6.heap.size, 1, none⟩ = some (.int .i64 ((j : Int) + 1)) := by simp only [World.cell?, hn8]; rfl
        have hst := HV8.out.st
        have hfr := HV8.out.ew.from_
        have s0 : w8.cell? ⟨w3.heap.size + 3, 0, none⟩ = some (.int .i64 i) := by simp only [World.cell?, hst]; rfl
        have s1 : w8.cell? ⟨w3.heap.size + 3, 1, none⟩ = some (.int .i64 j) := by simp only [World.cell?, hst]; rfl
        have f0 : w8.cell? ⟨w3.heap.size + 2, 0, none⟩ = some (.int .i64 fi) := by simp only [World.cell?, hfr]; rfl
        have f1 : w8.cell? ⟨w3.heap.size + 2, 1, none⟩ = some (.int .i64 fk) := by simp only [World.cell?, hfr]; rfl
        have z0 := Hp.frozen_of hst 0
        have z1 := Hp.frozen_of hst 1
        have y0 := Hp.frozen_of hfr 0
        have y1 := Hp.frozen_of hfr 1
        have hne1 : w3.heap.size + 3 ≠ w3.heap.size + 2 := by omega
        have hne2 : w3.heap.size + 2 ≠ w3.heap.size + 3 := by omega
        have hne3 : w6.heap.size ≠ w3.heap.size + 2 := by omega
        have hne4 : w6.heap.size ≠ w3.heap.size + 3 := by omega
        have hne5 : w3.heap.size + 2 ≠ w6.heap.size := by omega
        have hne6 : w3.heap.size + 3 ≠ w6.heap.size := by omega
        clear hst hfr hn7 hn8 hE hKB hz7 HV7
        go_wp2
        go_roundg k1
        case measure => omega
        case rel =>
          have hm := (HV8.out.set_from (i + 1) (j + 1)).set_at (i + 1) (j + 1)
          exact ⟨i + 1, j + 1, i + 1, j + 1, xs ++ oneW b fi fk i j, v1, _, ⟨rfl⟩, by omega, by omega, by omega, ⟨by have := HG.out.1; have := HK.out; omega⟩, by rw [List.length_append]; have := oneW_len b fi fk i j; omega, ⟨by simpa only [Int.natCast_add, Int.natCast_one] using hm⟩, ⟨by rw [← HX.out, HG.out.2, List.append_assoc]; rfl⟩⟩
      | false =>
        obtain ⟨q1, q2, q3, q4, q5⟩ := HST.out
        rw [if_neg (by simp)] at q5
        have HG := As.mk (And.intro q3 q5)
        clear q3 q4 q5 HST
        have hst := HV6.out.st
        have z0 := Hp.frozen_of hst 0
        have z1 := Hp.frozen_of hst 1
        have hne4 : w6.heap.size ≠ w3.heap.size + 3 := by omega
        have hne6 : w3.heap.size + 3 ≠ w6.heap.size := by omega
        clear hst
        go_wp2
        go_roundg k1
        case measure => omega
        case rel =>
          have hm := (HV6.out.set_at i1 j1).next (below_alloc (Below.refl _ _) (.cells #[.int .i64 i1, .int .i64 j1] 81))
          exact ⟨i1, j1, fi, fk, xs, v, _, ⟨rfl⟩, q1, q2, Nat.le_trans hfk HUP.out.2, ⟨by have := HG.out.1; have := HK.out; omega⟩, Nat.le_trans hxs HUP.out.1, ⟨hm⟩, ⟨by rw [← HX.out, HG.out.2]⟩⟩

theorem equal_some (a b : List Int) (hn : a.length ≤ 1000) : ∀ (e k i : Nat), i ≤ a.length → a.length - i = e → a.length = b.length → e + 1 ≤ k → slices_Equal_int_int.l0 k a b (a.length : Int) (i : Int) = some (decide (a.drop i = b.drop i))
  | 0, k, i, h0, h1, h2, h3 => by
    obtain ⟨k, rfl⟩ : ∃ m, k = m + 1 := ⟨k - 1, by omega⟩
    simp only [slices_Equal_int_int.l0]
    rw [if_neg (by omega), List.drop_eq_nil_of_le (by omega), List.drop_eq_nil_of_le (by omega)]
    rfl
  | e + 1, k, i, h0, h1, h2, h3 => by
    obtain ⟨k, rfl⟩ : ∃ m, k = m + 1 := ⟨k - 1, by omega⟩
    have hi : i < a.length := by omega
    have hj : i < b.length := by omega
    have hw : wrap64 ((i : Int) + 1) = ((i + 1 : Nat) : Int) := (w64d (by omega) (by omega)).trans (by omega)
    simp only [slices_Equal_int_int.l0, hw]
    rw [if_pos (by omega), if_pos (by omega), if_pos (by omega), if_pos (by omega), rd_get hi, rd_get hj, List.drop_eq_getElem_cons hi, List.drop_eq_getElem_cons hj]
    by_cases h : a[i] = b[i]
    · rw [if_pos h, equal_some a b hn e k (i + 1) (by omega) (by omega) h2 (by omega), h]
      congr 1
      rw [decide_eq_decide]
      exact ⟨fun h => by rw [h], fun h => (List.cons.inj h).2⟩
    · rw [if_neg h]
      congr 1
      symm
      rw [decide_eq_false_iff_not]
      intro h3
      injection h3 with h4
      exact h h4
theorem equal_any {A : Option Addr} {c : Nat} {a : List Int} {B : Option Addr} {d : Nat} {b : List Int} {w : World} (hr0 : Kd.C (Kd.int .i64) w A a.length a) (hc0 : a.length ≤ c) (hr1 : Kd.C (Kd.int .i64) w B b.length b) (hc1 : b.length ≤ d) (ha : a.length ≤ 1000) :
    Calls Try.prog 41 #[.slice A a.length c, .slice B b.length d] w fun e w' => e = .returned (.bool (decide (a = b))) ∧ Drawn0 w w' := by
  refine slices_Equal_int_int.calls (a.length + 1) A c a B d b _ w hr0 hc0 hr1 hc1 ?_
  unfold slices_Equal_int_int.f
  by_cases h : a.length = b.length
  · rw [if_pos (by omega)]
    have := equal_some a b ha a.length (a.length + 1) 0 (by omega) (by omega) h (by omega)
    simpa using this
  · rw [if_neg (by omega), decide_eq_false (fun e => h (by rw [e]))]

theorem one_R {w w3 w4 : World} {n : Nat} {b : List Int} {A4 : Option Addr} {c4 : Nat} (hb : Below w.heap.size w w4) (h : (Kd.int .i64).R 3 w4 w3.heap.size (fun _ => True) (.slice A4 b.length c4) b) (hl : w.heap.size ≤ w3.heap.size) :
    Kd.R k43 43 (w4.alloc (.cells #[.int .i64 0, .int .i64 n, .slice A4 b.length c4] 43)) w.heap.size (fun _ => True) (.slice (some ⟨w4.heap.size, 0, none⟩) 1 1) [⟨0, n, b⟩] := by
  refine ⟨fun _ _ => trivial, [.int .i64 0, .int .i64 n, .slice A4 b.length c4], ?_, ?_⟩
  · exact World.ownsRow_lit (base := w.heap.size) (e := 43) (size := 3) w4 #[.int .i64 0, .int .i64 n, .slice A4 b.length c4] 1 hb.size (by simp [maxLen]) (by simp)
  · refine Reps.snoc (ps := []) (cs := []) (Reps.none _ _) ?_ (by rfl)
    exact k43_mkM _ _ _ ⟨0, n, b⟩ (Kd.R_alloc (Kd.R_mono (Kd.R_bound (Kd.R_lower h hl)) (fun k hk => ⟨trivial, fun e => by
      have : k = w4.heap.size := by simpa [Value.ownBlock] using e
      have := hk.2.2.1
      omega⟩)) _)
set_option maxRecDepth 100000 in
theorem windows_many {A : Option Addr} {c : Nat} {a : List Int} {B : Option Addr} {d : Nat} {b : List Int} {w : World} (hr0 : Kd.C (Kd.int .i64) w A a.length a) (hc0 : a.length ≤ c) (hr1 : Kd.C (Kd.int .i64) w B b.length b) (hc1 : b.length ≤ d) (ha : a.length ≤ 1000) (hb : b.length ≤ 1000) (hh : ¬ (a.length ≤ 500 ∧ b.length ≤ 500)) :
    Calls Try.prog 21 #[.slice A a.length c, .slice B b.length d] w fun e w' => ∃ v, e = .returned v ∧ Kd.R k43 43 w' w.heap.size (fun _ => True) v (if a = b then [] else [⟨0, a.length, b⟩]) ∧ Below w.heap.size w w' := by
  have HR0 := As.mk hr0
  have HR1 := As.mk hr1
  have HC0 := As.mk hc0
  have HC1 := As.mk hc1
  have HH := As.mk hh
  clear hr0 hr1 hc0 hc1 hh
  obtain ⟨ws, hws⟩ : ∃ ws : List S43, ws = (if a = b then [] else [⟨0, a.length, b⟩]) := ⟨_, rfl⟩
  rw [← hws]
  have HWS := As.mk hws
  clear hws
  go_enter Try.func21, Try.ntmps21
  go_wp2_with fail
  have hh : (w.alloc (.cells #[.slice B b.length d] 33)).heap[w.heap.size]? = some (.cells #[.slice B b.length d] 33 (0, 0)) := (Go.MapKept.heap_alloc _ _).1
  have b0 : (w.alloc (.cells #[.slice B b.length d] 33)).cell? ⟨w.heap.size, 0, none⟩ = some (.slice B b.length d) := by simp only [World.cell?, hh]; rfl
  have HB1 := As.mk (below_alloc (Below.refl w.heap.size w) (.cells #[.slice B b.length d] 33))
  clear hh
  generalize w.alloc (.cells #[.slice B b.length d] 33) = w1 at HB1 b0 ⊢
  refine (few_any A c a B d b _ (Kd.C_below HR0.out HB1.out) HC0.out (Kd.C_below HR1.out HB1.out) HC1.out).mono ?_
  rw [decide_eq_false HH.out]
  rintro e w2 ⟨rfl, ⟨n1, rfl⟩⟩
  have HB2 := As.mk (pw_below_drewN HB1.out n1)
  have b2 : (w1.drewN n1).cell? ⟨w.heap.size, 0, none⟩ = some (.slice B b.length d) := by simpa using b0
  clear b0 HB1
  generalize w1.drewN n1 = w2 at HB2 b2 ⊢
  go_wp2_with fail
  refine (equal_any (Kd.C_below HR0.out HB2.out) HC0.out (Kd.C_below HR1.out HB2.out) HC1.out ha).mono ?_
  by_cases he : a = b
  · rw [decide_eq_true he]
    have hx := HWS.out
    rw [if_pos he] at hx
    subst hx
    rintro e w3 ⟨rfl, ⟨n3, rfl⟩⟩
    clear he
    go_wp2
    go_ret
    exact ⟨_, rfl, Kd.R_nil _ _ _ _ _, pw_below_drewN HB2.out _⟩
  · rw [decide_eq_false he]
    have hx := HWS.out
    rw [if_neg he] at hx
    subst hx
    rintro e w3 ⟨rfl, ⟨n3, rfl⟩⟩
    clear he
    have HB3 := As.mk (pw_below_drewN HB2.out n3)
    have b3 : (w2.drewN n3).cell? ⟨w.heap.size, 0, none⟩ = some (.slice B b.length d) := by simpa using b2
    clear b2 HB2
    generalize w2.drewN n3 = w3 at HB3 b3 ⊢
    go_wp2_with fail
    refine (cloneI_any B d b w3 (Kd.C_below HR1.out HB3.out) (by omega)).mono ?_
    rintro e w4 ⟨v4, rfl, ho4, hb4⟩
    obtain ⟨A4, c4, rfl⟩ := Kd.R_slice ho4
    have HO4 := As.mk ho4
    have HB4 := As.mk (bt_ HB3.out hb4)
    have HL := As.mk HB3.out.size
    clear ho4 hb4 HB3 b3
    go_wp2
    go_ret
    exact ⟨_, rfl, one_R HB4.out HO4.out HL.out, below_alloc HB4.out _⟩
end Go.Proofs.Ytphdbombgljamaa.Df
