/- A table of numbers, a block for each row; the table of two lists' longest common lists: no condition. -/
import Derived.Test.YtphdbombgljamaaDiffP
import Derived.Test.YtphdbombgljamaaHp
import Derived.Test.YtphdbombgljamaaRfx2
namespace Go.Proofs.Ytphdbombgljamaa.Df
open Go.RowKit Go.Proofs.YtphdbombgljamaaW.PrintWords Go.Proofs.YtphdbombgljamaaW.PrintLast Go.Proofs.YtphdbombgljamaaW.PrintMore Go.Proofs.Ytphdbombgljamaa.Rf Go.Proofs.Ytphdbombgljamaa.Aid
attribute [local go_sem] Aid.max_two Aid.min_two min2_mn max2_mx
set_option linter.unusedVariables false
set_option linter.unusedSimpArgs false
set_option maxHeartbeats 400000

/-- Block g is a row of rows: those of the blocks from r0 on, each of m + 1 numbers; as far as i. -/
structure Tab (w : World) (g r0 n m i : Nat) (T : Nat → Nat → Int) : Prop where
  own : ∃ cs, w.heap[g]? = some (.cells cs 33 (0, 0))
  row : ∀ p, p < i → w.cell? ⟨g, p, none⟩ = some (.slice (some ⟨r0 + p, 0, none⟩) (m + 1) (m + 1))
  rest : ∀ p, i ≤ p → p ≤ n → w.cell? ⟨g, p, none⟩ = some (.slice none 0 0)
  blk : ∀ p, p < i → ∃ cs, w.heap[r0 + p]? = some (.cells cs 3 (0, 0))
  val : ∀ p q, p < i → q ≤ m → w.cell? ⟨r0 + p, q, none⟩ = some (.int .i64 (T p q))
theorem Tab.congr {w : World} {g r0 n m i : Nat} {T T' : Nat → Nat → Int} (h : Tab w g r0 n m i T) (e : ∀ p q, p < i → q ≤ m → T' p q = T p q) : Tab w g r0 n m i T' :=
  ⟨h.own, h.row, h.rest, h.blk, fun p q hp hq => by rw [e p q hp hq]; exact h.val p q hp hq⟩
theorem Tab.below {w w' : World} {g r0 n m i : Nat} {T : Nat → Nat → Int} (h : Tab w g r0 n m i T) (hb : Below w.heap.size w w') : Tab w' g r0 n m i T := by
  obtain ⟨cs, hcs⟩ := h.own
  refine ⟨⟨cs, (hb.block _ (Array.getElem?_eq_some_iff.1 hcs).1).trans hcs⟩, fun p hp => pw_cell_below hb (h.row p hp), fun p h1 h2 => pw_cell_below hb (h.rest p h1 h2), fun p hp => ?_, fun p q hp hq => pw_cell_below hb (h.val p q hp hq)⟩
  obtain ⟨cs, hcs⟩ := h.blk p hp
  exact ⟨cs, (hb.block _ (Array.getElem?_eq_some_iff.1 hcs).1).trans hcs⟩
theorem blkset {w : World} {p t : Nat} {cs : Array Value} (h : w.heap[p]? = some (.cells cs t (0, 0))) (a : Addr) (u : Value) : ∃ cs', (w.setCell a u).heap[p]? = some (.cells cs' t (0, 0)) := by
  by_cases e : a.block = p
  · simp [World.setCell, Array.getElem?_modify, h, e]
  · exact ⟨cs, by rw [Below.heap_setCell _ _ _ _ (Ne.symm e)]; exact h⟩
theorem Tab.far0 {w : World} {g r0 n m i : Nat} {T : Nat → Nat → Int} (h : Tab w g r0 n m i T) (hg : g < r0) (p : Addr) (u : Value) (hp : p.block < g) : Tab (w.setCell p u) g r0 n m i T := by
  obtain ⟨cs, hcs⟩ := h.own
  exact ⟨blkset hcs _ _, fun q hq => (World.cell?_setCell_far _ _ _ _ (by show p.block ≠ g; omega)).trans (h.row q hq), fun q h1 h2 => (World.cell?_setCell_far _ _ _ _ (by show p.block ≠ g; omega)).trans (h.rest q h1 h2),
    fun q hq => by obtain ⟨cs, hcs⟩ := h.blk q hq; exact blkset hcs _ _, fun q j hq hj => (World.cell?_setCell_far _ _ _ _ (by show p.block ≠ r0 + q; omega)).trans (h.val q j hq hj)⟩
/-- A number stored. -/
theorem Tab.store {w : World} {g r0 n m i : Nat} {T : Nat → Nat → Int} (h : Tab w g r0 n m i T) (hg : g < r0) (p q : Nat) (hp : p < i) (hq : q ≤ m) (v : Int) :
    Tab (w.setCell ⟨r0 + p, q, none⟩ (Value.int .i64 v)) g r0 n m i (fun p' q' => if p' = p ∧ q' = q then v else T p' q') := by
  obtain ⟨cs, hcs⟩ := h.own
  refine ⟨blkset hcs _ _, fun p' hp' => ?_, fun p' h1 h2 => ?_, fun p' hp' => ?_, fun p' q' hp' hq' => ?_⟩
  · rw [World.cell?_setCell_far _ _ _ _ (by show r0 + p ≠ g; omega)]; exact h.row p' hp'
  · rw [World.cell?_setCell_far _ _ _ _ (by show r0 + p ≠ g; omega)]; exact h.rest p' h1 h2
  · obtain ⟨cs, hcs⟩ := h.blk p' hp'
    exact blkset hcs _ _
  · show _ = some (Value.int .i64 (if p' = p ∧ q' = q then v else T p' q'))
    by_cases e : p' = p
    · subst e
      by_cases e2 : q' = q
      · subst e2
        rw [if_pos ⟨rfl, rfl⟩]
        exact Hp.set_eq (h.val p' q' hp' hq')
      · rw [if_neg (by omega), Hp.set_ne _ _ _ _ _ e2]
        exact h.val p' q' hp' hq'
    · rw [if_neg (by omega), World.cell?_setCell_far _ _ _ _ (by show r0 + p ≠ r0 + p'; omega)]
      exact h.val p' q' hp' hq'
theorem made_get (z : Value) (n j : Nat) (h : j < n) : (madeCells #[z] n)[j]? = some z := by
  simp [madeCells, h, Nat.mod_one]
/-- A row is made, and stored. -/
theorem Tab.more {w : World} {g r0 n m i : Nat} {T : Nat → Nat → Int} (h : Tab w g r0 n m i T) (hg : g < r0) (hs : w.heap.size = r0 + i) (hi : i ≤ n) :
    Tab ((w.alloc (.cells (madeCells #[.int .i64 0] (m + 1)) 3)).setCell ⟨g, i, none⟩ (.slice (some ⟨w.heap.size, 0, none⟩) (m + 1) (m + 1))) g r0 n m (i + 1) (fun p q => if p = i then 0 else T p q) := by
  have hA := h.below (below_alloc (Below.refl w.heap.size w) (.cells (madeCells #[.int .i64 0] (m + 1)) 3))
  obtain ⟨cs, hcs⟩ := hA.own
  have hnew : (w.alloc (.cells (madeCells #[.int .i64 0] (m + 1)) 3)).heap[r0 + i]? = some (.cells (madeCells #[.int .i64 0] (m + 1)) 3 (0, 0)) := by
    rw [← hs]; exact (Go.MapKept.heap_alloc w _).1
  refine ⟨blkset hcs _ _, fun p' hp' => ?_, fun p' h1 h2 => ?_, fun p' hp' => ?_, fun p' q' hp' hq' => ?_⟩
  · by_cases e : p' = i
    · subst e
      rw [Hp.set_eq (hA.rest p' (Nat.le_refl _) hi), hs]
    · rw [Hp.set_ne _ _ _ _ _ e]; exact hA.row p' (by omega)
  · rw [Hp.set_ne _ _ _ _ _ (by omega)]; exact hA.rest p' (by omega) h2
  · by_cases e : p' = i
    · subst e
      exact blkset hnew _ _
    · obtain ⟨cs, hcs⟩ := hA.blk p' (by omega)
      exact blkset hcs _ _
  · rw [World.cell?_setCell_far _ _ _ _ (by show g ≠ r0 + p'; omega)]
    by_cases e : p' = i
    · subst e
      rw [if_pos rfl]
      simp only [World.cell?, hnew]
      exact made_get _ _ _ (by omega)
    · rw [if_neg e]; exact hA.val p' q' (by omega) hq'
/-- Of places done, their number; of others 0. -/
def done (a b : List Int) (c d p q : Nat) : Int := if c ≤ p ∨ (p + 1 = c ∧ d ≤ q) then (L a b p q : Int) else 0
theorem done_is (a b : List Int) {c d p q : Nat} (h : c ≤ p ∨ (p + 1 = c ∧ d ≤ q)) : done a b c d p q = (L a b p q : Int) := if_pos h
theorem done_start (a b : List Int) {p q : Nat} (hp : p < a.length + 1) (hq : q ≤ b.length) : done a b a.length b.length p q = 0 := by
  unfold done
  split
  · rename_i h
    rcases h with h | h
    · rw [L_end1 a b p q h]; rfl
    · rw [L_end2 a b p q h.2]; rfl
  · rfl
theorem done_row (a b : List Int) {e p q : Nat} (hq : q ≤ b.length) : done a b e b.length p q = done a b (e + 1) 0 p q := by
  unfold done
  by_cases h : e ≤ p
  · rw [if_pos (.inl h), if_pos (by omega)]
  · rw [if_neg (show ¬ (e + 1 ≤ p ∨ p + 1 = e + 1 ∧ 0 ≤ q) by omega)]
    split
    · rw [L_end2 a b p q (by omega)]; rfl
    · rfl
theorem done_step (a b : List Int) {e f p q : Nat} : done a b (e + 1) f p q = if p = e ∧ q = f then (L a b e f : Int) else done a b (e + 1) (f + 1) p q := by
  unfold done
  by_cases h : p = e ∧ q = f
  · rw [if_pos (by omega), if_pos h, h.1, h.2]
  · rw [if_neg h]
    by_cases h2 : e + 1 ≤ p ∨ p + 1 = e + 1 ∧ f ≤ q
    · rw [if_pos h2, if_pos (by omega)]
    · rw [if_neg h2, if_neg (by omega)]
theorem rd_get {xs : List Int} {i : Nat} (h : i < xs.length) : rd xs (i : Int) = xs[i] := by
  unfold rd; rw [Int.toNat_natCast, List.getD_eq_getElem?_getD, List.getElem?_eq_getElem h]; rfl
theorem w64d {i : Int} (h0 : -9223372036854775808 ≤ i) (h : i ≤ 9223372036854775807) : wrap64 i = i := by unfold wrap64; omega
def tabL (a b : List Int) : List (List Int) := (List.range (a.length + 1)).map (fun i => (List.range (b.length + 1)).map (fun k => (L a b i k : Int)))

/-- The table's variable, and the result's. -/
structure OfW (W : World) (s0 : Nat) (vA vB vG : Value) : Prop where
  t0 : W.cell? ⟨s0 + 2, 0, none⟩ = some vA
  t1 : W.cell? ⟨s0 + 2, 1, none⟩ = some vB
  t2 : W.cell? ⟨s0 + 2, 2, none⟩ = some vG
  r : W.heap[s0]? = some (.cells #[.slice none 0 0, .slice none 0 0, .slice none 0 0] 78 (0, 0))
theorem OfW.below {W W' : World} {s0 : Nat} {vA vB vG : Value} (h : OfW W s0 vA vB vG) (hb : Below W.heap.size W W') : OfW W' s0 vA vB vG :=
  ⟨pw_cell_below hb h.t0, pw_cell_below hb h.t1, pw_cell_below hb h.t2, (hb.block _ (Array.getElem?_eq_some_iff.1 h.r).1).trans h.r⟩
theorem OfW.far {W : World} {s0 : Nat} {vA vB vG : Value} (h : OfW W s0 vA vB vG) (p : Addr) (u : Value) (h1 : p.block ≠ s0 + 2) (h2 : p.block ≠ s0) : OfW (W.setCell p u) s0 vA vB vG :=
  ⟨(World.cell?_setCell_far _ _ _ _ h1).trans h.t0, (World.cell?_setCell_far _ _ _ _ h1).trans h.t1, (World.cell?_setCell_far _ _ _ _ h1).trans h.t2, (Below.heap_setCell _ _ _ _ (Ne.symm h2)).trans h.r⟩
theorem tab0 (w : World) (n m : Nat) (vA vB : Value) : Tab (((w.alloc (.cells #[.slice none 0 0, .slice none 0 0, .slice none 0 0] 78)).alloc (.cells (madeCells #[.slice none 0 0] (n + 1)) 33)).alloc (.cells #[vA, vB, .slice (some ⟨w.heap.size + 1, 0, none⟩) (n + 1) (n + 1)] 78)) (w.heap.size + 1) (w.heap.size + 3) n m 0 (fun _ _ => 0) := by
  obtain ⟨h0, h1, h2⟩ := Hp.push3 w.heap (.cells #[.slice none 0 0, .slice none 0 0, .slice none 0 0] 78) (.cells (madeCells #[.slice none 0 0] (n + 1)) 33) (.cells #[vA, vB, .slice (some ⟨w.heap.size + 1, 0, none⟩) (n + 1) (n + 1)] 78)
  obtain ⟨W, hW⟩ : ∃ W, W = ((w.alloc (.cells #[.slice none 0 0, .slice none 0 0, .slice none 0 0] 78)).alloc (.cells (madeCells #[.slice none 0 0] (n + 1)) 33)).alloc (.cells #[vA, vB, .slice (some ⟨w.heap.size + 1, 0, none⟩) (n + 1) (n + 1)] 78) := ⟨_, rfl⟩
  rw [← hW]
  replace h1 : W.heap[w.heap.size + 1]? = some (.cells (madeCells #[.slice none 0 0] (n + 1)) 33) := by rw [hW]; exact h1
  refine ⟨⟨_, h1⟩, fun p hp => absurd hp (by omega), fun p _ hp => ?_, fun p hp => absurd hp (by omega), fun p q hp => absurd hp (by omega)⟩
  simp only [World.cell?, h1]
  exact made_get _ _ _ (by omega)
theorem ofw0 (w : World) (n : Nat) (vA vB : Value) : OfW (((w.alloc (.cells #[.slice none 0 0, .slice none 0 0, .slice none 0 0] 78)).alloc (.cells (madeCells #[.slice none 0 0] (n + 1)) 33)).alloc (.cells #[vA, vB, .slice (some ⟨w.heap.size + 1, 0, none⟩) (n + 1) (n + 1)] 78)) w.heap.size vA vB (.slice (some ⟨w.heap.size + 1, 0, none⟩) (n + 1) (n + 1)) := by
  obtain ⟨h0, h1, h2⟩ := Hp.push3 w.heap (.cells #[.slice none 0 0, .slice none 0 0, .slice none 0 0] 78) (.cells (madeCells #[.slice none 0 0] (n + 1)) 33) (.cells #[vA, vB, .slice (some ⟨w.heap.size + 1, 0, none⟩) (n + 1) (n + 1)] 78)
  obtain ⟨W, hW⟩ : ∃ W, W = ((w.alloc (.cells #[.slice none 0 0, .slice none 0 0, .slice none 0 0] 78)).alloc (.cells (madeCells #[.slice none 0 0] (n + 1)) 33)).alloc (.cells #[vA, vB, .slice (some ⟨w.heap.size + 1, 0, none⟩) (n + 1) (n + 1)] 78) := ⟨_, rfl⟩
  rw [← hW]
  replace h0 : W.heap[w.heap.size]? = some (.cells #[.slice none 0 0, .slice none 0 0, .slice none 0 0] 78) := by rw [hW]; exact h0
  replace h2 : W.heap[w.heap.size + 2]? = some (.cells #[vA, vB, .slice (some ⟨w.heap.size + 1, 0, none⟩) (n + 1) (n + 1)] 78) := by rw [hW]; exact h2
  exact ⟨by simp only [World.cell?, h2]; rfl, by simp only [World.cell?, h2]; rfl, by simp only [World.cell?, h2]; rfl, h0⟩
theorem size_alloc (w : World) (o : Obj) : (w.alloc o).heap.size = w.heap.size + 1 := Array.size_push ..
theorem size_set (w : World) (p : Addr) (u : Value) : (w.setCell p u).heap.size = w.heap.size := Array.size_modify ..
theorem size3 (w : World) (x y z : Obj) : (((w.alloc x).alloc y).alloc z).heap.size = w.heap.size + 3 + 0 := by rw [size_alloc, size_alloc, size_alloc]

set_option maxRecDepth 100000 in
set_option maxHeartbeats 2000000 in
theorem of_any (A : Option Addr) (c : Nat) (a : List Int) (B : Option Addr) (d : Nat) (b : List Int) (w : World) (hr0 : Kd.C (Kd.int .i64) w A a.length a) (hr1 : Kd.C (Kd.int .i64) w B b.length b) (ha : a.length ≤ 500) (hb : b.length ≤ 500) :
    Calls Try.prog 43 #[.slice A a.length c, .slice B b.length d] w fun e w' => e = .returned (.agg #[.slice A a.length c, .slice B b.length d, .slice (some ⟨w.heap.size + 1, 0, none⟩) (a.length + 1) (a.length + 1)]) ∧ Tab w' (w.heap.size + 1) (w.heap.size + 3) a.length b.length (a.length + 1) (fun i k => (L a b i k : Int)) ∧ Below w.heap.size w w' := by
  have HR0 := As.mk hr0
  have HR1 := As.mk hr1
  clear hr0 hr1
  have hMo : ∀ W : World, (Instr.makeSlice 46 (.int .i64 ((a.length : Int) + 1)) (.int .i64 ((a.length : Int) + 1))).run Try.prog W = .ok (.slice (some ⟨W.heap.size, 0, none⟩) (a.length + 1) (a.length + 1)) (W.alloc (.cells (madeCells #[.slice none 0 0] (a.length + 1)) 33)) :=
    print_make_of 46 33 (.slice none 0 0) 24 Try.underlying46 (by kernel_rfl) rfl (by omega) (a.length + 1) (by omega)
  have hMi : ∀ W : World, (Instr.makeSlice 33 (.int .i64 ((b.length : Int) + 1)) (.int .i64 ((b.length : Int) + 1))).run Try.prog W = .ok (.slice (some ⟨W.heap.size, 0, none⟩) (b.length + 1) (b.length + 1)) (W.alloc (.cells (madeCells #[.int .i64 0] (b.length + 1)) 3)) :=
    print_make 33 3 .i64 8 Try.underlying33 (by kernel_rfl) (by omega) (b.length + 1) (by omega)
  have hwb : wrap64 ((b.length : Int) + 1) = (b.length : Int) + 1 := w64d (by omega) (by omega)
  go_enter Try.func43, Try.ntmps43
  go_wp2_with fail
  simp only [Nat.add_assoc, Nat.reduceAdd]
  have HT := As.mk (tab0 w a.length b.length (.slice A a.length c) (.slice B b.length d))
  have HO := As.mk (ofw0 w a.length (.slice A a.length c) (.slice B b.length d))
  have HB := As.mk (below_alloc (below_alloc (below_alloc (Below.refl w.heap.size w) (.cells #[.slice none 0 0, .slice none 0 0, .slice none 0 0] 78)) (.cells (madeCells #[.slice none 0 0] (a.length + 1)) 33)) (.cells #[.slice A a.length c, .slice B b.length d, .slice (some ⟨w.heap.size + 1, 0, none⟩) (a.length + 1) (a.length + 1)] 78))
  have HZ := As.mk (size3 w (.cells #[.slice none 0 0, .slice none 0 0, .slice none 0 0] 78) (.cells (madeCells #[.slice none 0 0] (a.length + 1)) 33) (.cells #[.slice A a.length c, .slice B b.length d, .slice (some ⟨w.heap.size + 1, 0, none⟩) (a.length + 1) (a.length + 1)] 78))
  generalize ((w.alloc (.cells #[.slice none 0 0, .slice none 0 0, .slice none 0 0] 78)).alloc (.cells (madeCells #[.slice none 0 0] (a.length + 1)) 33)).alloc (.cells #[.slice A a.length c, .slice B b.length d, .slice (some ⟨w.heap.size + 1, 0, none⟩) (a.length + 1) (a.length + 1)] 78) = W0 at HT HO HB HZ ⊢
  clear hMo
  go_loopg [19] (a.length + 1) (fun k v w' => ∃ (i : Nat) (W : World), v = .int .i64 i ∧ i ≤ a.length + 1 ∧ As (a.length + 1 - i ≤ k) ∧ As (W = w') ∧ As (OfW w' w.heap.size (.slice A a.length c) (.slice B b.length d) (.slice (some ⟨w.heap.size + 1, 0, none⟩) (a.length + 1) (a.length + 1))) ∧ As (Tab w' (w.heap.size + 1) (w.heap.size + 3) a.length b.length i (fun _ _ => 0)) ∧ As (w'.heap.size = w.heap.size + 3 + i) ∧ As (Below w.heap.size w w'))
  case atStart => exact ⟨0, W0, rfl, Nat.zero_le _, ⟨by omega⟩, ⟨rfl⟩, HO, HT, HZ, HB⟩
  case round =>
    clear HO HT HZ HB
    obtain ⟨i, W, rfl, hi, HK, HW, HO, HT, HZ, HB⟩ := hrel
    have hW := HW.out
    subst hW
    clear HW
    by_cases hlt : i < a.length + 1
    · obtain ⟨k1, rfl⟩ : ∃ k1, gk = k1 + 1 := ⟨gk - 1, by have := HK.out; omega⟩
      have hltI : (i : Int) < (a.length : Int) + 1 := by omega
      have ht2 := HO.out.t2
      have hgi := HT.out.rest i (Nat.le_refl _) (by omega)
      go_wp2
      refine start_ (n := 9) (S := fun w' => w'.cell? ⟨w.heap.size + 2, 2, none⟩ = some (.slice (some ⟨w.heap.size + 1, 0, none⟩) (a.length + 1) (a.length + 1)) ∧ w'.cell? ⟨w.heap.size + 1, i, none⟩ = some (.slice none 0 0)) (ds := [8]) #[false, false, false, false, false, false, false, false, false] (by kernel_rfl) rfl rfl (⟨ht2, hgi⟩) (fun hHeld => ?_)
      have HO7 := As.mk (HO.out.below (below_drew1 (Below.refl _ _))); have HT7 := As.mk (HT.out.below (below_drew1 (Below.refl _ _))); have HB7 := As.mk (below_drew1 HB.out); have HZ7 := As.mk (show W.drew.heap.size = w.heap.size + 3 + i from HZ.out); clear HO HT HB HZ ht2 hgi; generalize W.drew = w7 at HO7 HT7 HB7 HZ7 hHeld ⊢; obtain ⟨cs7, hcs7⟩ := (HT7.out.below (below_alloc (Below.refl _ _) (.cells (madeCells #[.int .i64 0] (b.length + 1)) 3))).own; have hfz := Hp.frozen_of hcs7 i; clear hcs7
      refine pure_ (i := 0) (N := some 22) (v := ?_) (a' := ?_) #[true, false, false, false, false, false, false, false, false] rfl rfl (by kernel_rfl) (fun _ _ _ h => h) (Or.inl ⟨by rfl, ?_⟩) ?_ ?_
      rotate_left
      · intro w'
        go_simp
        with_reducible rfl
      rotate_left
      · simp only [Act.put, List.setIfInBounds_toArray, List.set_cons_zero, List.set_cons_succ, i64_w, i32_w]
        rfl
      refine pure_ (i := 2) (N := some 24) (v := ?_) (a' := ?_) #[true, false, true, false, false, false, false, false, false] rfl rfl (by kernel_rfl) (fun _ _ _ h => h) (Or.inl ⟨by rfl, ?_⟩) ?_ ?_
      rotate_left
      · intro w'
        go_simp
        with_reducible rfl
      rotate_left
      · simp only [Act.put, List.setIfInBounds_toArray, List.set_cons_zero, List.set_cons_succ, i64_w, i32_w]
        rfl
      refine pure_ (i := 3) (N := some 25) (v := ?_) (a' := ?_) #[true, false, true, true, false, false, false, false, false] rfl rfl (by kernel_rfl) (fun _ _ _ h => h) (Or.inl ⟨by rfl, ?_⟩) ?_ ?_
      rotate_left
      · intro w'
        go_simp
        with_reducible rfl
      rotate_left
      · simp only [Act.put, List.setIfInBounds_toArray, List.set_cons_zero, List.set_cons_succ, i64_w, i32_w]
        rfl
      refine pure_ (i := 4) (N := some 26) (v := ?_) (a' := ?_) #[true, false, true, true, true, false, false, false, false] rfl rfl (by kernel_rfl) (fun _ _ _ h => h) (Or.inl ⟨by rfl, ?_⟩) ?_ ?_
      rotate_left
      · intro w'
        go_simp
        with_reducible rfl
      rotate_left
      · simp only [Act.put, List.setIfInBounds_toArray, List.set_cons_zero, List.set_cons_succ, i64_w, i32_w]
        rfl
      refine pure_ (i := 5) (N := some 27) (v := ?_) (a' := ?_) #[true, false, true, true, true, true, false, false, false] rfl rfl (by kernel_rfl) (fun _ _ _ h => h) (Or.inl ⟨by rfl, ?_⟩) ?_ ?_
      rotate_left
      · intro w'
        go_simp
        with_reducible rfl
      rotate_left
      · simp only [Act.put, List.setIfInBounds_toArray, List.set_cons_zero, List.set_cons_succ, i64_w, i32_w]
        rfl
      refine take_ (i := 1) (N := some 23) (v := ?_) (a' := ?_) #[true, true, true, true, true, true, false, false, false] rfl rfl (by kernel_rfl) (fun _ _ _ h => h) (Or.inl ⟨by rfl, ?_⟩) hHeld ?_ ?_
      rotate_left
      · intro w' hS'
        obtain ⟨s0, s1⟩ := hS'
        go_simp
        with_reducible rfl
      rotate_left
      · simp only [Act.put, List.setIfInBounds_toArray, List.set_cons_zero, List.set_cons_succ, i64_w, i32_w]
        rfl
      refine one_ (i := 6) (N := some 28) #[true, true, true, true, true, true, true, false, false] rfl rfl (by kernel_rfl) (by decide) (fun K hK => ?_)
      refine value_ (w1 := w7.alloc (.cells (madeCells #[.int .i64 0] (b.length + 1)) 3)) (v := .slice (some ⟨w7.heap.size, 0, none⟩) (b.length + 1) (b.length + 1)) (by rfl) rfl ?_ ?_
      · first | (go_simp; done) | (go_simp; rfl)
      refine hK.out _ _ (⟨pw_cell_below (below_alloc (Below.refl _ _) _) hHeld.1, pw_cell_below (below_alloc (Below.refl _ _) _) hHeld.2⟩) (fun hHeld => ?_)
      clear hK K
      refine norm_ (a' := ?_) ?_ ?_
      rotate_left
      · (simp only [Act.put, List.setIfInBounds_toArray, List.set_cons_zero, List.set_cons_succ]; rfl)
      refine pure_ (i := 7) (N := some 29) (v := ?_) (a' := ?_) #[true, true, true, true, true, true, true, true, false] rfl rfl (by kernel_rfl) (fun _ _ _ h => h) (Or.inl ⟨by rfl, ?_⟩) ?_ ?_
      rotate_left
      · intro w'
        go_simp
        with_reducible rfl
      rotate_left
      · simp only [Act.put, List.setIfInBounds_toArray, List.set_cons_zero, List.set_cons_succ, i64_w, i32_w]
        rfl
      refine last_ (i := 8) (N := none) #[true, true, true, true, true, true, true, true, true] rfl rfl (by kernel_rfl) (by decide) (fun K hK => ?_)
      obtain ⟨hh1, hh2⟩ := hHeld
      refine skip_ (w1 := (w7.alloc (.cells (madeCells #[.int .i64 0] (b.length + 1)) 3)).setCell ⟨w.heap.size + 1, i, none⟩ (.slice (some ⟨w7.heap.size, 0, none⟩) (b.length + 1) (b.length + 1))) (by rfl) rfl ?_ ?_
      · first | (go_simp; done) | (go_simp; rfl)
      refine hK.out _ _ ?_
      clear hK K
      refine done_ (by kernel_rfl) ?_
      go_wp2
      go_roundg k1
      case measure => omega
      case rel =>
        refine ⟨i + 1, _, by go_num, by omega, ⟨by have := HK.out; omega⟩, ⟨rfl⟩, ⟨?_⟩, ⟨?_⟩, ⟨?_⟩, ⟨?_⟩⟩
        · exact (HO7.out.below (below_alloc (Below.refl _ _) _)).far ⟨w.heap.size + 1, i, none⟩ _ (by show w.heap.size + 1 ≠ _; omega) (by show w.heap.size + 1 ≠ _; omega)
        · exact (HT7.out.more (by omega) HZ7.out (by omega)).congr (fun p q _ _ => by split <;> rfl)
        · rw [size_set, size_alloc, HZ7.out]; omega
        · exact (below_alloc HB7.out _).setCell (p := ⟨w.heap.size + 1, i, none⟩) (by show w.heap.size ≤ w.heap.size + 1; omega) _
    · obtain rfl : i = a.length + 1 := by omega
      have HT9 := As.mk (HT.out.congr (T' := done a b a.length b.length) (fun p q hp hq => done_start a b hp hq))
      clear HT HZ hMi HK
      go_wp2
      go_loopg [7] a.length (fun k v w' => ∃ (e : Nat) (x : Int) (W : World), v = .int .i64 x ∧ e ≤ a.length ∧ As (x = (e : Int) - 1) ∧ As (e ≤ k) ∧ As (W = w') ∧ As (OfW w' w.heap.size (.slice A a.length c) (.slice B b.length d) (.slice (some ⟨w.heap.size + 1, 0, none⟩) (a.length + 1) (a.length + 1))) ∧ As (Tab w' (w.heap.size + 1) (w.heap.size + 3) a.length b.length (a.length + 1) (done a b e b.length)) ∧ As (Below w.heap.size w w'))
      case atStart => exact ⟨a.length, _, W, rfl, Nat.le_refl _, ⟨rfl⟩, ⟨Nat.le_refl _⟩, ⟨rfl⟩, HO, HT9, HB⟩
      case round =>
        clear HO HT9 HB
        obtain ⟨e, x, W, rfl, he, HX, HK, HW, HO, HT, HB⟩ := hrel
        have hW := HW.out
        subst hW
        clear HW
        by_cases hlt : 0 < e
        · obtain ⟨e1, rfl⟩ : ∃ e1, e = e1 + 1 := ⟨e - 1, by omega⟩
          obtain ⟨k1, rfl⟩ : ∃ k1, gk = k1 + 1 := ⟨gk - 1, by have := HK.out; omega⟩
          obtain rfl : x = (e1 : Int) := by have := HX.out; omega
          clear HX
          go_wp2
          go_loopg [8] b.length (fun k v w' => ∃ (f : Nat) (y : Int) (W : World), v = .int .i64 y ∧ f ≤ b.length ∧ As (y = (f : Int) - 1) ∧ As (f ≤ k) ∧ As (W = w') ∧ As (OfW w' w.heap.size (.slice A a.length c) (.slice B b.length d) (.slice (some ⟨w.heap.size + 1, 0, none⟩) (a.length + 1) (a.length + 1))) ∧ As (Tab w' (w.heap.size + 1) (w.heap.size + 3) a.length b.length (a.length + 1) (done a b (e1 + 1) f)) ∧ As (Below w.heap.size w w'))
          case atStart => exact ⟨b.length, _, W, rfl, Nat.le_refl _, ⟨rfl⟩, ⟨Nat.le_refl _⟩, ⟨rfl⟩, HO, HT, HB⟩
          case round =>
            clear HO HT HB
            obtain ⟨f, y, W, rfl, hf, HY, HK2, HW, HO, HT, HB⟩ := hrel
            have hW := HW.out
            subst hW
            clear HW
            by_cases hlf : 0 < f
            · obtain ⟨f1, rfl⟩ : ∃ f1, f = f1 + 1 := ⟨f - 1, by omega⟩
              obtain ⟨k2, rfl⟩ : ∃ k2, gk = k2 + 1 := ⟨gk - 1, by have := HK2.out; omega⟩
              obtain rfl : y = (f1 : Int) := by have := HY.out; omega
              clear HY
              have h1 : e1 < a.length := by omega
              have h2 : f1 < b.length := by omega
              obtain ⟨ad0, rfl, x0⟩ := Kd.at_int (Kd.C_below HR0.out HB.out) (e1 : Int) (by omega) (by omega)
              obtain ⟨ad1, rfl, x1⟩ := Kd.at_int (Kd.C_below HR1.out HB.out) (f1 : Int) (by omega) (by omega)
              rw [rd_get h1, Int.toNat_natCast] at x0
              rw [rd_get h2, Int.toNat_natCast] at x1
              have i1 : (e1 : Int) < a.length := by omega
              have i2 : (f1 : Int) < b.length := by omega
              have i3 : (e1 : Int) < (a.length : Int) + 1 := by omega
              have i4 : (e1 : Int) + 1 < (a.length : Int) + 1 := by omega
              have i5 : (f1 : Int) < (b.length : Int) + 1 := by omega
              have i6 : (f1 : Int) + 1 < (b.length : Int) + 1 := by omega
              have i7 : 0 ≤ (e1 : Int) + 1 := by omega
              have i8 : 0 ≤ (f1 : Int) + 1 := by omega
              have i9 : ((e1 : Int) + 1).toNat = e1 + 1 := by omega
              have i10 : ((f1 : Int) + 1).toNat = f1 + 1 := by omega
              have hw1 : wrap64 ((e1 : Int) + 1) = (e1 : Int) + 1 := w64d (by omega) (by omega)
              have hw2 : wrap64 ((f1 : Int) + 1) = (f1 : Int) + 1 := w64d (by omega) (by omega)
              have hst := L_step a b h1 h2
              by_cases e : a[e1] = b[f1]
              · have he : (a[e1] == b[f1]) = true := by simpa using e
                have hS := hst
                rw [if_pos e] at hS
                generalize a[e1] = xa at x0 he e
                generalize b[f1] = xb at x1 he e
                have HS := As.mk hS
                clear hst e hS
                go_wp2
                refine start_ (n := 9) (S := fun w' => w'.cell? (ad0.add e1) = some (.int .i64 xa) ∧ w'.cell? (ad1.add f1) = some (.int .i64 xb)) (ds := []) #[false, false, false, false, false, false, false, false, false] (by kernel_rfl) rfl rfl (⟨x0, x1⟩) (fun hHeld => ?_)
                have HO6 := As.mk (HO.out.below (below_drew1 (Below.refl _ _))); have HT6 := As.mk (HT.out.below (below_drew1 (Below.refl _ _))); have HB6 := As.mk (below_drew1 HB.out); clear HO HT HB x0 x1; generalize W.drew = w6 at HO6 HT6 HB6 hHeld ⊢
                refine pure_ (i := 0) (N := some 45) (v := ?_) (a' := ?_) #[true, false, false, false, false, false, false, false, false] rfl rfl (by kernel_rfl) (fun _ _ _ h => h) (Or.inl ⟨by rfl, ?_⟩) ?_ ?_
                rotate_left
                · intro w'
                  go_simp
                  with_reducible rfl
                rotate_left
                · simp only [Act.put, List.setIfInBounds_toArray, List.set_cons_zero, List.set_cons_succ, i64_w, i32_w]
                  rfl
                refine pure_ (i := 1) (N := some 46) (v := ?_) (a' := ?_) #[true, true, false, false, false, false, false, false, false] rfl rfl (by kernel_rfl) (fun _ _ _ h => h) (Or.inl ⟨by rfl, ?_⟩) ?_ ?_
                rotate_left
                · intro w'
                  go_simp
                  with_reducible rfl
                rotate_left
                · simp only [Act.put, List.setIfInBounds_toArray, List.set_cons_zero, List.set_cons_succ, i64_w, i32_w]
                  rfl
                refine pure_ (i := 2) (N := some 47) (v := ?_) (a' := ?_) #[true, true, true, false, false, false, false, false, false] rfl rfl (by kernel_rfl) (fun _ _ _ h => h) (Or.inl ⟨by rfl, ?_⟩) ?_ ?_
                rotate_left
                · intro w'
                  go_simp
                  with_reducible rfl
                rotate_left
                · simp only [Act.put, List.setIfInBounds_toArray, List.set_cons_zero, List.set_cons_succ, i64_w, i32_w]
                  rfl
                refine pure_ (i := 4) (N := some 49) (v := ?_) (a' := ?_) #[true, true, true, false, true, false, false, false, false] rfl rfl (by kernel_rfl) (fun _ _ _ h => h) (Or.inl ⟨by rfl, ?_⟩) ?_ ?_
                rotate_left
                · intro w'
                  go_simp
                  with_reducible rfl
                rotate_left
                · simp only [Act.put, List.setIfInBounds_toArray, List.set_cons_zero, List.set_cons_succ, i64_w, i32_w]
                  rfl
                refine pure_ (i := 5) (N := some 50) (v := ?_) (a' := ?_) #[true, true, true, false, true, true, false, false, false] rfl rfl (by kernel_rfl) (fun _ _ _ h => h) (Or.inl ⟨by rfl, ?_⟩) ?_ ?_
                rotate_left
                · intro w'
                  go_simp
                  with_reducible rfl
                rotate_left
                · simp only [Act.put, List.setIfInBounds_toArray, List.set_cons_zero, List.set_cons_succ, i64_w, i32_w]
                  rfl
                refine pure_ (i := 6) (N := some 51) (v := ?_) (a' := ?_) #[true, true, true, false, true, true, true, false, false] rfl rfl (by kernel_rfl) (fun _ _ _ h => h) (Or.inl ⟨by rfl, ?_⟩) ?_ ?_
                rotate_left
                · intro w'
                  go_simp
                  with_reducible rfl
                rotate_left
                · simp only [Act.put, List.setIfInBounds_toArray, List.set_cons_zero, List.set_cons_succ, i64_w, i32_w]
                  rfl
                refine take_ (i := 3) (N := some 48) (v := ?_) (a' := ?_) #[true, true, true, true, true, true, true, false, false] rfl rfl (by kernel_rfl) (fun _ _ _ h => h) (Or.inl ⟨by rfl, ?_⟩) hHeld ?_ ?_
                rotate_left
                · intro w' hS'
                  obtain ⟨s0, s1⟩ := hS'
                  go_simp
                  with_reducible rfl
                rotate_left
                · simp only [Act.put, List.setIfInBounds_toArray, List.set_cons_zero, List.set_cons_succ, i64_w, i32_w]
                  rfl
                refine take_ (i := 7) (N := some 52) (v := ?_) (a' := ?_) #[true, true, true, true, true, true, true, true, false] rfl rfl (by kernel_rfl) (fun _ _ _ h => h) (Or.inl ⟨by rfl, ?_⟩) hHeld ?_ ?_
                rotate_left
                · intro w' hS'
                  obtain ⟨s0, s1⟩ := hS'
                  go_simp
                  with_reducible rfl
                rotate_left
                · simp only [Act.put, List.setIfInBounds_toArray, List.set_cons_zero, List.set_cons_succ, i64_w, i32_w]
                  rfl
                refine pure_ (i := 8) (N := some 53) (v := ?_) (a' := ?_) #[true, true, true, true, true, true, true, true, true] rfl rfl (by kernel_rfl) (fun _ _ _ h => h) (Or.inl ⟨by rfl, ?_⟩) ?_ ?_
                rotate_left
                · intro w'
                  go_simp
                  with_reducible rfl
                rotate_left
                · simp only [Act.put, List.setIfInBounds_toArray, List.set_cons_zero, List.set_cons_succ, i64_w, i32_w]
                  rfl
                refine done_ (by kernel_rfl) ?_
                clear hHeld
                have ht2 := HO6.out.t2
                have hr1 := HT6.out.row e1 (by omega)
                have hr2 := HT6.out.row (e1 + 1) (by omega)
                have v11 := HT6.out.val (e1 + 1) (f1 + 1) (by omega) (by omega)
                have v10 := HT6.out.val (e1 + 1) f1 (by omega) (by omega)
                have v01 := HT6.out.val e1 (f1 + 1) (by omega) (by omega)
                have v00 := HT6.out.val e1 f1 (by omega) (by omega)
                rw [done_is a b (by omega)] at v11 v10 v01
                have b11 := L_le a b (e1 + 1) (f1 + 1)
                have b10 := L_le a b (e1 + 1) f1
                have b01 := L_le a b e1 (f1 + 1)
                generalize done a b (e1 + 1) (f1 + 1) e1 f1 = old at v00
                generalize hL11 : L a b (e1 + 1) (f1 + 1) = l11 at v11 b11
                generalize hL10 : L a b (e1 + 1) f1 = l10 at v10 b10
                generalize hL01 : L a b e1 (f1 + 1) = l01 at v01 b01
                rw [hL11] at HS
                clear hL11 hL10 hL01
                obtain ⟨cs0, hcs0⟩ := HT6.out.blk e1 (by omega)
                have hfz := Hp.frozen_of hcs0 f1
                clear hcs0
                have hw3 : wrap64 (1 + (l11 : Int)) = 1 + (l11 : Int) := w64d (by omega) (by omega)
                have hmx : mxI (l10 : Int) (l01 : Int) = ((max l10 l01 : Nat) : Int) := by unfold mxI; split <;> omega
                go_wp2
                refine start_ (n := 19) (S := fun w' => w'.cell? ⟨w.heap.size + 2, 2, none⟩ = some (.slice (some ⟨w.heap.size + 1, 0, none⟩) (a.length + 1) (a.length + 1)) ∧ w'.cell? ⟨w.heap.size + 1, e1, none⟩ = some (.slice (some ⟨w.heap.size + 3 + e1, 0, none⟩) (b.length + 1) (b.length + 1)) ∧ w'.cell? ⟨w.heap.size + 1, e1 + 1, none⟩ = some (.slice (some ⟨w.heap.size + 3 + (e1 + 1), 0, none⟩) (b.length + 1) (b.length + 1)) ∧ w'.cell? ⟨w.heap.size + 3 + (e1 + 1), f1 + 1, none⟩ = some (.int .i64 (l11 : Int)) ∧ w'.cell? ⟨w.heap.size + 3 + e1, f1, none⟩ = some (.int .i64 old)) (ds := [18]) #[false, false, false, false, false, false, false, false, false, false, false, false, false, false, false, false, false, false, false] (by kernel_rfl) rfl rfl (⟨ht2, hr1, hr2, v11, v00⟩) (fun hHeld => ?_)
                have HO7 := As.mk (HO6.out.below (below_drew1 (Below.refl _ _))); have HT7 := As.mk (HT6.out.below (below_drew1 (Below.refl _ _))); have HB7 := As.mk (below_drew1 HB6.out); have hfz7 : w6.drew.frozen? ⟨w.heap.size + 3 + e1, f1, none⟩ = false := hfz; clear HO6 HT6 HB6 ht2 hr1 hr2 v11 v10 v01 v00 hfz; generalize w6.drew = w7 at HO7 HT7 HB7 hfz7 hHeld ⊢
                refine pure_ (i := 0) (N := some 54) (v := ?_) (a' := ?_) #[true, false, false, false, false, false, false, false, false, false, false, false, false, false, false, false, false, false, false] rfl rfl (by kernel_rfl) (fun _ _ _ h => h) (Or.inl ⟨by rfl, ?_⟩) ?_ ?_
                rotate_left
                · intro w'
                  go_simp
                  with_reducible rfl
                rotate_left
                · simp only [Act.put, List.setIfInBounds_toArray, List.set_cons_zero, List.set_cons_succ, i64_w, i32_w]
                  rfl
                refine pure_ (i := 2) (N := some 56) (v := ?_) (a' := ?_) #[true, false, true, false, false, false, false, false, false, false, false, false, false, false, false, false, false, false, false] rfl rfl (by kernel_rfl) (fun _ _ _ h => h) (Or.inl ⟨by rfl, ?_⟩) ?_ ?_
                rotate_left
                · intro w'
                  go_simp
                  with_reducible rfl
                rotate_left
                · simp only [Act.put, List.setIfInBounds_toArray, List.set_cons_zero, List.set_cons_succ, i64_w, i32_w]
                  rfl
                refine pure_ (i := 5) (N := some 59) (v := ?_) (a' := ?_) #[true, false, true, false, false, true, false, false, false, false, false, false, false, false, false, false, false, false, false] rfl rfl (by kernel_rfl) (fun _ _ _ h => h) (Or.inl ⟨by rfl, ?_⟩) ?_ ?_
                rotate_left
                · intro w'
                  go_simp
                  with_reducible rfl
                rotate_left
                · simp only [Act.put, List.setIfInBounds_toArray, List.set_cons_zero, List.set_cons_succ, i64_w, i32_w]
                  rfl
                refine pure_ (i := 6) (N := some 60) (v := ?_) (a' := ?_) #[true, false, true, false, false, true, true, false, false, false, false, false, false, false, false, false, false, false, false] rfl rfl (by kernel_rfl) (fun _ _ _ h => h) (Or.inl ⟨by rfl, ?_⟩) ?_ ?_
                rotate_left
                · intro w'
                  go_simp
                  with_reducible rfl
                rotate_left
                · simp only [Act.put, List.setIfInBounds_toArray, List.set_cons_zero, List.set_cons_succ, i64_w, i32_w]
                  rfl
                refine pure_ (i := 8) (N := some 62) (v := ?_) (a' := ?_) #[true, false, true, false, false, true, true, false, true, false, false, false, false, false, false, false, false, false, false] rfl rfl (by kernel_rfl) (fun _ _ _ h => h) (Or.inl ⟨by rfl, ?_⟩) ?_ ?_
                rotate_left
                · intro w'
                  go_simp
                  with_reducible rfl
                rotate_left
                · simp only [Act.put, List.setIfInBounds_toArray, List.set_cons_zero, List.set_cons_succ, i64_w, i32_w]
                  rfl
                refine pure_ (i := 9) (N := some 63) (v := ?_) (a' := ?_) #[true, false, true, false, false, true, true, false, true, true, false, false, false, false, false, false, false, false, false] rfl rfl (by kernel_rfl) (fun _ _ _ h => h) (Or.inl ⟨by rfl, ?_⟩) ?_ ?_
                rotate_left
                · intro w'
                  go_simp
                  with_reducible rfl
                rotate_left
                · simp only [Act.put, List.setIfInBounds_toArray, List.set_cons_zero, List.set_cons_succ, i64_w, i32_w]
                  rfl
                refine pure_ (i := 12) (N := some 66) (v := ?_) (a' := ?_) #[true, false, true, false, false, true, true, false, true, true, false, false, true, false, false, false, false, false, false] rfl rfl (by kernel_rfl) (fun _ _ _ h => h) (Or.inl ⟨by rfl, ?_⟩) ?_ ?_
                rotate_left
                · intro w'
                  go_simp
                  with_reducible rfl
                rotate_left
                · simp only [Act.put, List.setIfInBounds_toArray, List.set_cons_zero, List.set_cons_succ, i64_w, i32_w]
                  rfl
                refine pure_ (i := 13) (N := some 67) (v := ?_) (a' := ?_) #[true, false, true, false, false, true, true, false, true, true, false, false, true, true, false, false, false, false, false] rfl rfl (by kernel_rfl) (fun _ _ _ h => h) (Or.inl ⟨by rfl, ?_⟩) ?_ ?_
                rotate_left
                · intro w'
                  go_simp
                  with_reducible rfl
                rotate_left
                · simp only [Act.put, List.setIfInBounds_toArray, List.set_cons_zero, List.set_cons_succ, i64_w, i32_w]
                  rfl
                refine take_ (i := 1) (N := some 55) (v := ?_) (a' := ?_) #[true, true, true, false, false, true, true, false, true, true, false, false, true, true, false, false, false, false, false] rfl rfl (by kernel_rfl) (fun _ _ _ h => h) (Or.inl ⟨by rfl, ?_⟩) hHeld ?_ ?_
                rotate_left
                · intro w' hS'
                  obtain ⟨s0, s1, s2, s3, s4⟩ := hS'
                  go_simp
                  with_reducible rfl
                rotate_left
                · simp only [Act.put, List.setIfInBounds_toArray, List.set_cons_zero, List.set_cons_succ, i64_w, i32_w]
                  rfl
                refine pure_ (i := 3) (N := some 57) (v := ?_) (a' := ?_) #[true, true, true, true, false, true, true, false, true, true, false, false, true, true, false, false, false, false, false] rfl rfl (by kernel_rfl) (fun _ _ _ h => h) (Or.inl ⟨by rfl, ?_⟩) ?_ ?_
                rotate_left
                · intro w'
                  go_simp
                  with_reducible rfl
                rotate_left
                · simp only [Act.put, List.setIfInBounds_toArray, List.set_cons_zero, List.set_cons_succ, i64_w, i32_w]
                  rfl
                refine take_ (i := 4) (N := some 58) (v := ?_) (a' := ?_) #[true, true, true, true, true, true, true, false, true, true, false, false, true, true, false, false, false, false, false] rfl rfl (by kernel_rfl) (fun _ _ _ h => h) (Or.inl ⟨by rfl, ?_⟩) hHeld ?_ ?_
                rotate_left
                · intro w' hS'
                  obtain ⟨s0, s1, s2, s3, s4⟩ := hS'
                  go_simp
                  with_reducible rfl
                rotate_left
                · simp only [Act.put, List.setIfInBounds_toArray, List.set_cons_zero, List.set_cons_succ, i64_w, i32_w]
                  rfl
                refine take_ (i := 7) (N := some 61) (v := ?_) (a' := ?_) #[true, true, true, true, true, true, true, true, true, true, false, false, true, true, false, false, false, false, false] rfl rfl (by kernel_rfl) (fun _ _ _ h => h) (Or.inl ⟨by rfl, ?_⟩) hHeld ?_ ?_
                rotate_left
                · intro w' hS'
                  obtain ⟨s0, s1, s2, s3, s4⟩ := hS'
                  go_simp
                  with_reducible rfl
                rotate_left
                · simp only [Act.put, List.setIfInBounds_toArray, List.set_cons_zero, List.set_cons_succ, i64_w, i32_w]
                  rfl
                refine pure_ (i := 10) (N := some 64) (v := ?_) (a' := ?_) #[true, true, true, true, true, true, true, true, true, true, true, false, true, true, false, false, false, false, false] rfl rfl (by kernel_rfl) (fun _ _ _ h => h) (Or.inl ⟨by rfl, ?_⟩) ?_ ?_
                rotate_left
                · intro w'
                  go_simp
                  with_reducible rfl
                rotate_left
                · simp only [Act.put, List.setIfInBounds_toArray, List.set_cons_zero, List.set_cons_succ, i64_w, i32_w]
                  rfl
                refine take_ (i := 11) (N := some 65) (v := ?_) (a' := ?_) #[true, true, true, true, true, true, true, true, true, true, true, true, true, true, false, false, false, false, false] rfl rfl (by kernel_rfl) (fun _ _ _ h => h) (Or.inl ⟨by rfl, ?_⟩) hHeld ?_ ?_
                rotate_left
                · intro w' hS'
                  obtain ⟨s0, s1, s2, s3, s4⟩ := hS'
                  go_simp
                  with_reducible rfl
                rotate_left
                · simp only [Act.put, List.setIfInBounds_toArray, List.set_cons_zero, List.set_cons_succ, i64_w, i32_w]
                  rfl
                refine pure_ (i := 14) (N := some 68) (v := ?_) (a' := ?_) #[true, true, true, true, true, true, true, true, true, true, true, true, true, true, true, false, false, false, false] rfl rfl (by kernel_rfl) (fun _ _ _ h => h) (Or.inl ⟨by rfl, ?_⟩) ?_ ?_
                rotate_left
                · intro w'
                  go_simp
                  with_reducible rfl
                rotate_left
                · simp only [Act.put, List.setIfInBounds_toArray, List.set_cons_zero, List.set_cons_succ, i64_w, i32_w]
                  rfl
                refine take_ (i := 15) (N := some 69) (v := ?_) (a' := ?_) #[true, true, true, true, true, true, true, true, true, true, true, true, true, true, true, true, false, false, false] rfl rfl (by kernel_rfl) (fun _ _ _ h => h) (Or.inl ⟨by rfl, ?_⟩) hHeld ?_ ?_
                rotate_left
                · intro w' hS'
                  obtain ⟨s0, s1, s2, s3, s4⟩ := hS'
                  go_simp
                  with_reducible rfl
                rotate_left
                · simp only [Act.put, List.setIfInBounds_toArray, List.set_cons_zero, List.set_cons_succ, i64_w, i32_w]
                  rfl
                refine pure_ (i := 16) (N := some 70) (v := ?_) (a' := ?_) #[true, true, true, true, true, true, true, true, true, true, true, true, true, true, true, true, true, false, false] rfl rfl (by kernel_rfl) (fun _ _ _ h => h) (Or.inl ⟨by rfl, ?_⟩) ?_ ?_
                rotate_left
                · intro w'
                  go_simp
                  with_reducible rfl
                rotate_left
                · simp only [Act.put, List.setIfInBounds_toArray, List.set_cons_zero, List.set_cons_succ, i64_w, i32_w]
                  rfl
                refine pure_ (i := 17) (N := some 71) (v := ?_) (a' := ?_) #[true, true, true, true, true, true, true, true, true, true, true, true, true, true, true, true, true, true, false] rfl rfl (by kernel_rfl) (fun _ _ _ h => h) (Or.inl ⟨by rfl, ?_⟩) ?_ ?_
                rotate_left
                · intro w'
                  go_simp
                  with_reducible rfl
                rotate_left
                · simp only [Act.put, List.setIfInBounds_toArray, List.set_cons_zero, List.set_cons_succ, i64_w, i32_w]
                  rfl
                refine last_ (i := 18) (N := none) #[true, true, true, true, true, true, true, true, true, true, true, true, true, true, true, true, true, true, true] rfl rfl (by kernel_rfl) (by decide) (fun K hK => ?_)
                obtain ⟨hh0, hh1, hh2, hh3, hh4⟩ := hHeld
                refine skip_ (w1 := w7.setCell ⟨w.heap.size + 3 + e1, f1, none⟩ (.int .i64 (1 + (l11 : Int)))) (by rfl) rfl ?_ ?_
                · first | (go_simp; done) | (go_simp; rfl)
                refine hK.out _ _ ?_
                clear hK K
                refine done_ (by kernel_rfl) ?_
                go_wp2
                go_roundg k2
                case measure => omega
                case rel =>
                  refine ⟨f1, _, _, by go_num, by omega, ⟨by omega⟩, ⟨by have := HK2.out; omega⟩, ⟨rfl⟩, ⟨?_⟩, ⟨?_⟩, ⟨?_⟩⟩
                  · exact HO7.out.far ⟨w.heap.size + 3 + e1, f1, none⟩ _ (by show w.heap.size + 3 + e1 ≠ _; omega) (by show w.heap.size + 3 + e1 ≠ _; omega)
                  · refine (HT7.out.store (by omega) e1 f1 (by omega) (by omega) (1 + (l11 : Int))).congr (fun p q hp hq => ?_)
                    rw [done_step a b (e := e1) (f := f1), HS.out]
                    try (split <;> first | rfl | (push_cast; omega))
                  · exact HB7.out.setCell (p := ⟨w.heap.size + 3 + e1, f1, none⟩) (by show w.heap.size ≤ w.heap.size + 3 + e1; omega) _
              · have he : (a[e1] == b[f1]) = false := by simpa using e
                have hS := hst
                rw [if_neg e] at hS
                generalize a[e1] = xa at x0 he e
                generalize b[f1] = xb at x1 he e
                have HS := As.mk hS
                clear hst e hS
                go_wp2
                refine start_ (n := 9) (S := fun w' => w'.cell? (ad0.add e1) = some (.int .i64 xa) ∧ w'.cell? (ad1.add f1) = some (.int .i64 xb)) (ds := []) #[false, false, false, false, false, false, false, false, false] (by kernel_rfl) rfl rfl (⟨x0, x1⟩) (fun hHeld => ?_)
                have HO6 := As.mk (HO.out.below (below_drew1 (Below.refl _ _))); have HT6 := As.mk (HT.out.below (below_drew1 (Below.refl _ _))); have HB6 := As.mk (below_drew1 HB.out); clear HO HT HB x0 x1; generalize W.drew = w6 at HO6 HT6 HB6 hHeld ⊢
                refine pure_ (i := 0) (N := some 45) (v := ?_) (a' := ?_) #[true, false, false, false, false, false, false, false, false] rfl rfl (by kernel_rfl) (fun _ _ _ h => h) (Or.inl ⟨by rfl, ?_⟩) ?_ ?_
                rotate_left
                · intro w'
                  go_simp
                  with_reducible rfl
                rotate_left
                · simp only [Act.put, List.setIfInBounds_toArray, List.set_cons_zero, List.set_cons_succ, i64_w, i32_w]
                  rfl
                refine pure_ (i := 1) (N := some 46) (v := ?_) (a' := ?_) #[true, true, false, false, false, false, false, false, false] rfl rfl (by kernel_rfl) (fun _ _ _ h => h) (Or.inl ⟨by rfl, ?_⟩) ?_ ?_
                rotate_left
                · intro w'
                  go_simp
                  with_reducible rfl
                rotate_left
                · simp only [Act.put, List.setIfInBounds_toArray, List.set_cons_zero, List.set_cons_succ, i64_w, i32_w]
                  rfl
                refine pure_ (i := 2) (N := some 47) (v := ?_) (a' := ?_) #[true, true, true, false, false, false, false, false, false] rfl rfl (by kernel_rfl) (fun _ _ _ h => h) (Or.inl ⟨by rfl, ?_⟩) ?_ ?_
                rotate_left
                · intro w'
                  go_simp
                  with_reducible rfl
                rotate_left
                · simp only [Act.put, List.setIfInBounds_toArray, List.set_cons_zero, List.set_cons_succ, i64_w, i32_w]
                  rfl
                refine pure_ (i := 4) (N := some 49) (v := ?_) (a' := ?_) #[true, true, true, false, true, false, false, false, false] rfl rfl (by kernel_rfl) (fun _ _ _ h => h) (Or.inl ⟨by rfl, ?_⟩) ?_ ?_
                rotate_left
                · intro w'
                  go_simp
                  with_reducible rfl
                rotate_left
                · simp only [Act.put, List.setIfInBounds_toArray, List.set_cons_zero, List.set_cons_succ, i64_w, i32_w]
                  rfl
                refine pure_ (i := 5) (N := some 50) (v := ?_) (a' := ?_) #[true, true, true, false, true, true, false, false, false] rfl rfl (by kernel_rfl) (fun _ _ _ h => h) (Or.inl ⟨by rfl, ?_⟩) ?_ ?_
                rotate_left
                · intro w'
                  go_simp
                  with_reducible rfl
                rotate_left
                · simp only [Act.put, List.setIfInBounds_toArray, List.set_cons_zero, List.set_cons_succ, i64_w, i32_w]
                  rfl
                refine pure_ (i := 6) (N := some 51) (v := ?_) (a' := ?_) #[true, true, true, false, true, true, true, false, false] rfl rfl (by kernel_rfl) (fun _ _ _ h => h) (Or.inl ⟨by rfl, ?_⟩) ?_ ?_
                rotate_left
                · intro w'
                  go_simp
                  with_reducible rfl
                rotate_left
                · simp only [Act.put, List.setIfInBounds_toArray, List.set_cons_zero, List.set_cons_succ, i64_w, i32_w]
                  rfl
                refine take_ (i := 3) (N := some 48) (v := ?_) (a' := ?_) #[true, true, true, true, true, true, true, false, false] rfl rfl (by kernel_rfl) (fun _ _ _ h => h) (Or.inl ⟨by rfl, ?_⟩) hHeld ?_ ?_
                rotate_left
                · intro w' hS'
                  obtain ⟨s0, s1⟩ := hS'
                  go_simp
                  with_reducible rfl
                rotate_left
                · simp only [Act.put, List.setIfInBounds_toArray, List.set_cons_zero, List.set_cons_succ, i64_w, i32_w]
                  rfl
                refine take_ (i := 7) (N := some 52) (v := ?_) (a' := ?_) #[true, true, true, true, true, true, true, true, false] rfl rfl (by kernel_rfl) (fun _ _ _ h => h) (Or.inl ⟨by rfl, ?_⟩) hHeld ?_ ?_
                rotate_left
                · intro w' hS'
                  obtain ⟨s0, s1⟩ := hS'
                  go_simp
                  with_reducible rfl
                rotate_left
                · simp only [Act.put, List.setIfInBounds_toArray, List.set_cons_zero, List.set_cons_succ, i64_w, i32_w]
                  rfl
                refine pure_ (i := 8) (N := some 53) (v := ?_) (a' := ?_) #[true, true, true, true, true, true, true, true, true] rfl rfl (by kernel_rfl) (fun _ _ _ h => h) (Or.inl ⟨by rfl, ?_⟩) ?_ ?_
                rotate_left
                · intro w'
                  go_simp
                  with_reducible rfl
                rotate_left
                · simp only [Act.put, List.setIfInBounds_toArray, List.set_cons_zero, List.set_cons_succ, i64_w, i32_w]
                  rfl
                refine done_ (by kernel_rfl) ?_
                clear hHeld
                have ht2 := HO6.out.t2
                have hr1 := HT6.out.row e1 (by omega)
                have hr2 := HT6.out.row (e1 + 1) (by omega)
                have v11 := HT6.out.val (e1 + 1) (f1 + 1) (by omega) (by omega)
                have v10 := HT6.out.val (e1 + 1) f1 (by omega) (by omega)
                have v01 := HT6.out.val e1 (f1 + 1) (by omega) (by omega)
                have v00 := HT6.out.val e1 f1 (by omega) (by omega)
                rw [done_is a b (by omega)] at v11 v10 v01
                have b11 := L_le a b (e1 + 1) (f1 + 1)
                have b10 := L_le a b (e1 + 1) f1
                have b01 := L_le a b e1 (f1 + 1)
                generalize done a b (e1 + 1) (f1 + 1) e1 f1 = old at v00
                generalize hL11 : L a b (e1 + 1) (f1 + 1) = l11 at v11 b11
                generalize hL10 : L a b (e1 + 1) f1 = l10 at v10 b10
                generalize hL01 : L a b e1 (f1 + 1) = l01 at v01 b01
                rw [hL10, hL01] at HS
                clear hL11 hL10 hL01
                obtain ⟨cs0, hcs0⟩ := HT6.out.blk e1 (by omega)
                have hfz := Hp.frozen_of hcs0 f1
                clear hcs0
                have hw3 : wrap64 (1 + (l11 : Int)) = 1 + (l11 : Int) := w64d (by omega) (by omega)
                have hmx : mxI (l10 : Int) (l01 : Int) = ((max l10 l01 : Nat) : Int) := by unfold mxI; split <;> omega
                go_wp2
                refine start_ (n := 27) (S := fun w' => w'.cell? ⟨w.heap.size + 2, 2, none⟩ = some (.slice (some ⟨w.heap.size + 1, 0, none⟩) (a.length + 1) (a.length + 1)) ∧ w'.cell? ⟨w.heap.size + 1, e1, none⟩ = some (.slice (some ⟨w.heap.size + 3 + e1, 0, none⟩) (b.length + 1) (b.length + 1)) ∧ w'.cell? ⟨w.heap.size + 1, e1 + 1, none⟩ = some (.slice (some ⟨w.heap.size + 3 + (e1 + 1), 0, none⟩) (b.length + 1) (b.length + 1)) ∧ w'.cell? ⟨w.heap.size + 3 + (e1 + 1), f1, none⟩ = some (.int .i64 (l10 : Int)) ∧ w'.cell? ⟨w.heap.size + 3 + e1, f1 + 1, none⟩ = some (.int .i64 (l01 : Int)) ∧ w'.cell? ⟨w.heap.size + 3 + e1, f1, none⟩ = some (.int .i64 old)) (ds := [26]) #[false, false, false, false, false, false, false, false, false, false, false, false, false, false, false, false, false, false, false, false, false, false, false, false, false, false, false] (by kernel_rfl) rfl rfl (⟨ht2, hr1, hr2, v10, v01, v00⟩) (fun hHeld => ?_)
                have HO7 := As.mk (HO6.out.below (below_drew1 (Below.refl _ _))); have HT7 := As.mk (HT6.out.below (below_drew1 (Below.refl _ _))); have HB7 := As.mk (below_drew1 HB6.out); have hfz7 : w6.drew.frozen? ⟨w.heap.size + 3 + e1, f1, none⟩ = false := hfz; clear HO6 HT6 HB6 ht2 hr1 hr2 v11 v10 v01 v00 hfz; generalize w6.drew = w7 at HO7 HT7 HB7 hfz7 hHeld ⊢
                refine pure_ (i := 0) (N := some 72) (v := ?_) (a' := ?_) #[true, false, false, false, false, false, false, false, false, false, false, false, false, false, false, false, false, false, false, false, false, false, false, false, false, false, false] rfl rfl (by kernel_rfl) (fun _ _ _ h => h) (Or.inl ⟨by rfl, ?_⟩) ?_ ?_
                rotate_left
                · intro w'
                  go_simp
                  with_reducible rfl
                rotate_left
                · simp only [Act.put, List.setIfInBounds_toArray, List.set_cons_zero, List.set_cons_succ, i64_w, i32_w]
                  rfl
                refine pure_ (i := 2) (N := some 74) (v := ?_) (a' := ?_) #[true, false, true, false, false, false, false, false, false, false, false, false, false, false, false, false, false, false, false, false, false, false, false, false, false, false, false] rfl rfl (by kernel_rfl) (fun _ _ _ h => h) (Or.inl ⟨by rfl, ?_⟩) ?_ ?_
                rotate_left
                · intro w'
                  go_simp
                  with_reducible rfl
                rotate_left
                · simp only [Act.put, List.setIfInBounds_toArray, List.set_cons_zero, List.set_cons_succ, i64_w, i32_w]
                  rfl
                refine pure_ (i := 5) (N := some 77) (v := ?_) (a' := ?_) #[true, false, true, false, false, true, false, false, false, false, false, false, false, false, false, false, false, false, false, false, false, false, false, false, false, false, false] rfl rfl (by kernel_rfl) (fun _ _ _ h => h) (Or.inl ⟨by rfl, ?_⟩) ?_ ?_
                rotate_left
                · intro w'
                  go_simp
                  with_reducible rfl
                rotate_left
                · simp only [Act.put, List.setIfInBounds_toArray, List.set_cons_zero, List.set_cons_succ, i64_w, i32_w]
                  rfl
                refine pure_ (i := 6) (N := some 78) (v := ?_) (a' := ?_) #[true, false, true, false, false, true, true, false, false, false, false, false, false, false, false, false, false, false, false, false, false, false, false, false, false, false, false] rfl rfl (by kernel_rfl) (fun _ _ _ h => h) (Or.inl ⟨by rfl, ?_⟩) ?_ ?_
                rotate_left
                · intro w'
                  go_simp
                  with_reducible rfl
                rotate_left
                · simp only [Act.put, List.setIfInBounds_toArray, List.set_cons_zero, List.set_cons_succ, i64_w, i32_w]
                  rfl
                refine pure_ (i := 8) (N := some 80) (v := ?_) (a' := ?_) #[true, false, true, false, false, true, true, false, true, false, false, false, false, false, false, false, false, false, false, false, false, false, false, false, false, false, false] rfl rfl (by kernel_rfl) (fun _ _ _ h => h) (Or.inl ⟨by rfl, ?_⟩) ?_ ?_
                rotate_left
                · intro w'
                  go_simp
                  with_reducible rfl
                rotate_left
                · simp only [Act.put, List.setIfInBounds_toArray, List.set_cons_zero, List.set_cons_succ, i64_w, i32_w]
                  rfl
                refine pure_ (i := 9) (N := some 81) (v := ?_) (a' := ?_) #[true, false, true, false, false, true, true, false, true, true, false, false, false, false, false, false, false, false, false, false, false, false, false, false, false, false, false] rfl rfl (by kernel_rfl) (fun _ _ _ h => h) (Or.inl ⟨by rfl, ?_⟩) ?_ ?_
                rotate_left
                · intro w'
                  go_simp
                  with_reducible rfl
                rotate_left
                · simp only [Act.put, List.setIfInBounds_toArray, List.set_cons_zero, List.set_cons_succ, i64_w, i32_w]
                  rfl
                refine pure_ (i := 12) (N := some 84) (v := ?_) (a' := ?_) #[true, false, true, false, false, true, true, false, true, true, false, false, true, false, false, false, false, false, false, false, false, false, false, false, false, false, false] rfl rfl (by kernel_rfl) (fun _ _ _ h => h) (Or.inl ⟨by rfl, ?_⟩) ?_ ?_
                rotate_left
                · intro w'
                  go_simp
                  with_reducible rfl
                rotate_left
                · simp only [Act.put, List.setIfInBounds_toArray, List.set_cons_zero, List.set_cons_succ, i64_w, i32_w]
                  rfl
                refine pure_ (i := 15) (N := some 87) (v := ?_) (a' := ?_) #[true, false, true, false, false, true, true, false, true, true, false, false, true, false, false, true, false, false, false, false, false, false, false, false, false, false, false] rfl rfl (by kernel_rfl) (fun _ _ _ h => h) (Or.inl ⟨by rfl, ?_⟩) ?_ ?_
                rotate_left
                · intro w'
                  go_simp
                  with_reducible rfl
                rotate_left
                · simp only [Act.put, List.setIfInBounds_toArray, List.set_cons_zero, List.set_cons_succ, i64_w, i32_w]
                  rfl
                refine pure_ (i := 17) (N := some 89) (v := ?_) (a' := ?_) #[true, false, true, false, false, true, true, false, true, true, false, false, true, false, false, true, false, true, false, false, false, false, false, false, false, false, false] rfl rfl (by kernel_rfl) (fun _ _ _ h => h) (Or.inl ⟨by rfl, ?_⟩) ?_ ?_
                rotate_left
                · intro w'
                  go_simp
                  with_reducible rfl
                rotate_left
                · simp only [Act.put, List.setIfInBounds_toArray, List.set_cons_zero, List.set_cons_succ, i64_w, i32_w]
                  rfl
                refine pure_ (i := 20) (N := some 92) (v := ?_) (a' := ?_) #[true, false, true, false, false, true, true, false, true, true, false, false, true, false, false, true, false, true, false, false, true, false, false, false, false, false, false] rfl rfl (by kernel_rfl) (fun _ _ _ h => h) (Or.inl ⟨by rfl, ?_⟩) ?_ ?_
                rotate_left
                · intro w'
                  go_simp
                  with_reducible rfl
                rotate_left
                · simp only [Act.put, List.setIfInBounds_toArray, List.set_cons_zero, List.set_cons_succ, i64_w, i32_w]
                  rfl
                refine pure_ (i := 21) (N := some 93) (v := ?_) (a' := ?_) #[true, false, true, false, false, true, true, false, true, true, false, false, true, false, false, true, false, true, false, false, true, true, false, false, false, false, false] rfl rfl (by kernel_rfl) (fun _ _ _ h => h) (Or.inl ⟨by rfl, ?_⟩) ?_ ?_
                rotate_left
                · intro w'
                  go_simp
                  with_reducible rfl
                rotate_left
                · simp only [Act.put, List.setIfInBounds_toArray, List.set_cons_zero, List.set_cons_succ, i64_w, i32_w]
                  rfl
                refine take_ (i := 1) (N := some 73) (v := ?_) (a' := ?_) #[true, true, true, false, false, true, true, false, true, true, false, false, true, false, false, true, false, true, false, false, true, true, false, false, false, false, false] rfl rfl (by kernel_rfl) (fun _ _ _ h => h) (Or.inl ⟨by rfl, ?_⟩) hHeld ?_ ?_
                rotate_left
                · intro w' hS'
                  obtain ⟨s0, s1, s2, s3, s4, s5⟩ := hS'
                  go_simp
                  with_reducible rfl
                rotate_left
                · simp only [Act.put, List.setIfInBounds_toArray, List.set_cons_zero, List.set_cons_succ, i64_w, i32_w]
                  rfl
                refine pure_ (i := 3) (N := some 75) (v := ?_) (a' := ?_) #[true, true, true, true, false, true, true, false, true, true, false, false, true, false, false, true, false, true, false, false, true, true, false, false, false, false, false] rfl rfl (by kernel_rfl) (fun _ _ _ h => h) (Or.inl ⟨by rfl, ?_⟩) ?_ ?_
                rotate_left
                · intro w'
                  go_simp
                  with_reducible rfl
                rotate_left
                · simp only [Act.put, List.setIfInBounds_toArray, List.set_cons_zero, List.set_cons_succ, i64_w, i32_w]
                  rfl
                refine take_ (i := 4) (N := some 76) (v := ?_) (a' := ?_) #[true, true, true, true, true, true, true, false, true, true, false, false, true, false, false, true, false, true, false, false, true, true, false, false, false, false, false] rfl rfl (by kernel_rfl) (fun _ _ _ h => h) (Or.inl ⟨by rfl, ?_⟩) hHeld ?_ ?_
                rotate_left
                · intro w' hS'
                  obtain ⟨s0, s1, s2, s3, s4, s5⟩ := hS'
                  go_simp
                  with_reducible rfl
                rotate_left
                · simp only [Act.put, List.setIfInBounds_toArray, List.set_cons_zero, List.set_cons_succ, i64_w, i32_w]
                  rfl
                refine take_ (i := 7) (N := some 79) (v := ?_) (a' := ?_) #[true, true, true, true, true, true, true, true, true, true, false, false, true, false, false, true, false, true, false, false, true, true, false, false, false, false, false] rfl rfl (by kernel_rfl) (fun _ _ _ h => h) (Or.inl ⟨by rfl, ?_⟩) hHeld ?_ ?_
                rotate_left
                · intro w' hS'
                  obtain ⟨s0, s1, s2, s3, s4, s5⟩ := hS'
                  go_simp
                  with_reducible rfl
                rotate_left
                · simp only [Act.put, List.setIfInBounds_toArray, List.set_cons_zero, List.set_cons_succ, i64_w, i32_w]
                  rfl
                refine pure_ (i := 10) (N := some 82) (v := ?_) (a' := ?_) #[true, true, true, true, true, true, true, true, true, true, true, false, true, false, false, true, false, true, false, false, true, true, false, false, false, false, false] rfl rfl (by kernel_rfl) (fun _ _ _ h => h) (Or.inl ⟨by rfl, ?_⟩) ?_ ?_
                rotate_left
                · intro w'
                  go_simp
                  with_reducible rfl
                rotate_left
                · simp only [Act.put, List.setIfInBounds_toArray, List.set_cons_zero, List.set_cons_succ, i64_w, i32_w]
                  rfl
                refine take_ (i := 11) (N := some 83) (v := ?_) (a' := ?_) #[true, true, true, true, true, true, true, true, true, true, true, true, true, false, false, true, false, true, false, false, true, true, false, false, false, false, false] rfl rfl (by kernel_rfl) (fun _ _ _ h => h) (Or.inl ⟨by rfl, ?_⟩) hHeld ?_ ?_
                rotate_left
                · intro w' hS'
                  obtain ⟨s0, s1, s2, s3, s4, s5⟩ := hS'
                  go_simp
                  with_reducible rfl
                rotate_left
                · simp only [Act.put, List.setIfInBounds_toArray, List.set_cons_zero, List.set_cons_succ, i64_w, i32_w]
                  rfl
                refine pure_ (i := 13) (N := some 85) (v := ?_) (a' := ?_) #[true, true, true, true, true, true, true, true, true, true, true, true, true, true, false, true, false, true, false, false, true, true, false, false, false, false, false] rfl rfl (by kernel_rfl) (fun _ _ _ h => h) (Or.inl ⟨by rfl, ?_⟩) ?_ ?_
                rotate_left
                · intro w'
                  go_simp
                  with_reducible rfl
                rotate_left
                · simp only [Act.put, List.setIfInBounds_toArray, List.set_cons_zero, List.set_cons_succ, i64_w, i32_w]
                  rfl
                refine take_ (i := 14) (N := some 86) (v := ?_) (a' := ?_) #[true, true, true, true, true, true, true, true, true, true, true, true, true, true, true, true, false, true, false, false, true, true, false, false, false, false, false] rfl rfl (by kernel_rfl) (fun _ _ _ h => h) (Or.inl ⟨by rfl, ?_⟩) hHeld ?_ ?_
                rotate_left
                · intro w' hS'
                  obtain ⟨s0, s1, s2, s3, s4, s5⟩ := hS'
                  go_simp
                  with_reducible rfl
                rotate_left
                · simp only [Act.put, List.setIfInBounds_toArray, List.set_cons_zero, List.set_cons_succ, i64_w, i32_w]
                  rfl
                refine take_ (i := 16) (N := some 88) (v := ?_) (a' := ?_) #[true, true, true, true, true, true, true, true, true, true, true, true, true, true, true, true, true, true, false, false, true, true, false, false, false, false, false] rfl rfl (by kernel_rfl) (fun _ _ _ h => h) (Or.inl ⟨by rfl, ?_⟩) hHeld ?_ ?_
                rotate_left
                · intro w' hS'
                  obtain ⟨s0, s1, s2, s3, s4, s5⟩ := hS'
                  go_simp
                  with_reducible rfl
                rotate_left
                · simp only [Act.put, List.setIfInBounds_toArray, List.set_cons_zero, List.set_cons_succ, i64_w, i32_w]
                  rfl
                refine pure_ (i := 18) (N := some 90) (v := ?_) (a' := ?_) #[true, true, true, true, true, true, true, true, true, true, true, true, true, true, true, true, true, true, true, false, true, true, false, false, false, false, false] rfl rfl (by kernel_rfl) (fun _ _ _ h => h) (Or.inl ⟨by rfl, ?_⟩) ?_ ?_
                rotate_left
                · intro w'
                  go_simp
                  with_reducible rfl
                rotate_left
                · simp only [Act.put, List.setIfInBounds_toArray, List.set_cons_zero, List.set_cons_succ, i64_w, i32_w]
                  rfl
                refine take_ (i := 19) (N := some 91) (v := ?_) (a' := ?_) #[true, true, true, true, true, true, true, true, true, true, true, true, true, true, true, true, true, true, true, true, true, true, false, false, false, false, false] rfl rfl (by kernel_rfl) (fun _ _ _ h => h) (Or.inl ⟨by rfl, ?_⟩) hHeld ?_ ?_
                rotate_left
                · intro w' hS'
                  obtain ⟨s0, s1, s2, s3, s4, s5⟩ := hS'
                  go_simp
                  with_reducible rfl
                rotate_left
                · simp only [Act.put, List.setIfInBounds_toArray, List.set_cons_zero, List.set_cons_succ, i64_w, i32_w]
                  rfl
                refine pure_ (i := 22) (N := some 94) (v := ?_) (a' := ?_) #[true, true, true, true, true, true, true, true, true, true, true, true, true, true, true, true, true, true, true, true, true, true, true, false, false, false, false] rfl rfl (by kernel_rfl) (fun _ _ _ h => h) (Or.inl ⟨by rfl, ?_⟩) ?_ ?_
                rotate_left
                · intro w'
                  go_simp
                  with_reducible rfl
                rotate_left
                · simp only [Act.put, List.setIfInBounds_toArray, List.set_cons_zero, List.set_cons_succ, i64_w, i32_w]
                  rfl
                refine take_ (i := 23) (N := some 95) (v := ?_) (a' := ?_) #[true, true, true, true, true, true, true, true, true, true, true, true, true, true, true, true, true, true, true, true, true, true, true, true, false, false, false] rfl rfl (by kernel_rfl) (fun _ _ _ h => h) (Or.inl ⟨by rfl, ?_⟩) hHeld ?_ ?_
                rotate_left
                · intro w' hS'
                  obtain ⟨s0, s1, s2, s3, s4, s5⟩ := hS'
                  go_simp
                  with_reducible rfl
                rotate_left
                · simp only [Act.put, List.setIfInBounds_toArray, List.set_cons_zero, List.set_cons_succ, i64_w, i32_w]
                  rfl
                refine pure_ (i := 24) (N := some 96) (v := ?_) (a' := ?_) #[true, true, true, true, true, true, true, true, true, true, true, true, true, true, true, true, true, true, true, true, true, true, true, true, true, false, false] rfl rfl (by kernel_rfl) (fun _ _ _ h => h) (Or.inl ⟨by rfl, ?_⟩) ?_ ?_
                rotate_left
                · intro w'
                  go_simp
                  with_reducible rfl
                rotate_left
                · simp only [Act.put, List.setIfInBounds_toArray, List.set_cons_zero, List.set_cons_succ, i64_w, i32_w]
                  rfl
                refine pure_ (i := 25) (N := some 97) (v := ?_) (a' := ?_) #[true, true, true, true, true, true, true, true, true, true, true, true, true, true, true, true, true, true, true, true, true, true, true, true, true, true, false] rfl rfl (by kernel_rfl) (fun _ _ _ h => h) (Or.inl ⟨by rfl, ?_⟩) ?_ ?_
                rotate_left
                · intro w'
                  go_simp
                  with_reducible rfl
                rotate_left
                · simp only [Act.put, List.setIfInBounds_toArray, List.set_cons_zero, List.set_cons_succ, i64_w, i32_w]
                  rfl
                refine last_ (i := 26) (N := none) #[true, true, true, true, true, true, true, true, true, true, true, true, true, true, true, true, true, true, true, true, true, true, true, true, true, true, true] rfl rfl (by kernel_rfl) (by decide) (fun K hK => ?_)
                obtain ⟨hh0, hh1, hh2, hh3, hh4, hh5⟩ := hHeld
                refine skip_ (w1 := w7.setCell ⟨w.heap.size + 3 + e1, f1, none⟩ (.int .i64 (((max l10 l01 : Nat) : Int)))) (by rfl) rfl ?_ ?_
                · first | (go_simp; done) | (go_simp; rfl)
                refine hK.out _ _ ?_
                clear hK K
                refine done_ (by kernel_rfl) ?_
                go_wp2
                go_roundg k2
                case measure => omega
                case rel =>
                  refine ⟨f1, _, _, by go_num, by omega, ⟨by omega⟩, ⟨by have := HK2.out; omega⟩, ⟨rfl⟩, ⟨?_⟩, ⟨?_⟩, ⟨?_⟩⟩
                  · exact HO7.out.far ⟨w.heap.size + 3 + e1, f1, none⟩ _ (by show w.heap.size + 3 + e1 ≠ _; omega) (by show w.heap.size + 3 + e1 ≠ _; omega)
                  · refine (HT7.out.store (by omega) e1 f1 (by omega) (by omega) (((max l10 l01 : Nat) : Int))).congr (fun p q hp hq => ?_)
                    rw [done_step a b (e := e1) (f := f1), HS.out]
                    try (split <;> first | rfl | (push_cast; omega))
                  · exact HB7.out.setCell (p := ⟨w.heap.size + 3 + e1, f1, none⟩) (by show w.heap.size ≤ w.heap.size + 3 + e1; omega) _
            · obtain rfl : f = 0 := by omega
              obtain rfl : y = -1 := by have := HY.out; omega
              go_wp2
              go_roundg k1
              case measure => omega
              case rel => exact ⟨e1, _, W, by go_num, by omega, ⟨by omega⟩, ⟨by have := HK.out; omega⟩, ⟨rfl⟩, HO, ⟨HT.out.congr (fun p q hp hq => done_row a b hq)⟩, HB⟩
        · obtain rfl : e = 0 := by omega
          obtain rfl : x = -1 := by have := HX.out; omega
          have ht0 := HO.out.t0
          have ht1 := HO.out.t1
          have ht2 := HO.out.t2
          have hr := HO.out.r
          have q0 : W.cell? ⟨w.heap.size, 0, none⟩ = some (.slice none 0 0) := by simp only [World.cell?, hr]; rfl
          have q1 : W.cell? ⟨w.heap.size, 1, none⟩ = some (.slice none 0 0) := by simp only [World.cell?, hr]; rfl
          have q2 : W.cell? ⟨w.heap.size, 2, none⟩ = some (.slice none 0 0) := by simp only [World.cell?, hr]; rfl
          have z0 := Hp.frozen_of hr 0
          have z1 := Hp.frozen_of hr 1
          have z2 := Hp.frozen_of hr 2
          clear hr
          go_wp2
          refine bodyPost_ret (v := .agg #[.slice A a.length c, .slice B b.length d, .slice (some ⟨w.heap.size + 1, 0, none⟩) (a.length + 1) (a.length + 1)]) ?_ rfl ⟨rfl, ?_, ?_⟩
          · have e0 : (W.setCell ⟨w.heap.size, 0, none⟩ (.slice A a.length c)).cell? ⟨w.heap.size, 0, none⟩ = some (.slice A a.length c) := Hp.set_eq q0
            have e1 : ((W.setCell ⟨w.heap.size, 0, none⟩ (.slice A a.length c)).setCell ⟨w.heap.size, 1, none⟩ (.slice B b.length d)).cell? ⟨w.heap.size, 1, none⟩ = some (.slice B b.length d) := Hp.set_eq ((Hp.set_ne _ _ _ _ _ (by omega)).trans q1)
            have e2 : (((W.setCell ⟨w.heap.size, 0, none⟩ (.slice A a.length c)).setCell ⟨w.heap.size, 1, none⟩ (.slice B b.length d)).setCell ⟨w.heap.size, 2, none⟩ (.slice (some ⟨w.heap.size + 1, 0, none⟩) (a.length + 1) (a.length + 1))).cell? ⟨w.heap.size, 2, none⟩ = some (.slice (some ⟨w.heap.size + 1, 0, none⟩) (a.length + 1) (a.length + 1)) := Hp.set_eq ((Hp.set_ne _ _ _ _ _ (by omega)).trans ((Hp.set_ne _ _ _ _ _ (by omega)).trans q2))
            simp [results, Try.results43, go_sem, e0, e1, e2]
          · have hT := HT.out.congr (T' := fun i k => (L a b i k : Int)) (fun p q hp hq => (done_is a b (.inl (Nat.zero_le _))).symm)
            exact ((hT.far0 (by omega) ⟨w.heap.size, 0, none⟩ _ (by show w.heap.size < _; omega)).far0 (by omega) ⟨w.heap.size, 1, none⟩ _ (by show w.heap.size < _; omega)).far0 (by omega) ⟨w.heap.size, 2, none⟩ _ (by show w.heap.size < _; omega)
          · exact ((HB.out.setCell (p := ⟨w.heap.size, 0, none⟩) (Nat.le_refl _) _).setCell (p := ⟨w.heap.size, 1, none⟩) (Nat.le_refl _) _).setCell (p := ⟨w.heap.size, 2, none⟩) (Nat.le_refl _) _
end Go.Proofs.Ytphdbombgljamaa.Df
