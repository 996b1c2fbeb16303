import Derived.Laws.Rows
import Derived.Test.YtkffhgiiejbnaaaGreatQAid
import Derived.Test.YtkffhgiiejbnaaaGreatQEncF
import Derived.Test.YtkffhgiiejbnaaaGreatQ01
import Derived.Test.YtkffhgiiejbnaaaGreatQRngB
set_option maxRecDepth 100000
set_option maxHeartbeats 2000000
set_option linter.unusedVariables false
set_option linter.unusedSimpArgs false
namespace Go.Proofs.YtkffhgiiejbnaaaGreat.Sk
def Ends (p xs : List Int) (k : Nat) : Prop := k ≤ p.length ∧ p.take k <:+ xs
instance (p xs : List Int) (k : Nat) : Decidable (Ends p xs k) := by unfold Ends; infer_instance
def metN (p xs : List Int) : Nat → Nat
 | 0 => 0
 | n + 1 => if Ends p xs (n + 1) then n + 1 else metN p xs n
def metF (p xs : List Int) : Nat := metN p xs p.length
theorem Ends.zero (p xs : List Int) : Ends p xs 0 := ⟨Nat.zero_le _, by rw [List.take_zero]; exact List.nil_suffix⟩
theorem metN_le (p xs : List Int) : ∀ n, metN p xs n ≤ n
 | 0 => Nat.le_refl _
 | n + 1 => by
  unfold metN
  split
  ·exact Nat.le_refl _
  ·exact Nat.le_succ_of_le (metN_le p xs n)
theorem metN_ends (p xs : List Int) : ∀ n, Ends p xs (metN p xs n)
 | 0 => Ends.zero p xs
 | n + 1 => by
  unfold metN
  split
  ·assumption
  ·exact metN_ends p xs n
theorem metN_max {p xs : List Int} {k : Nat} (h : Ends p xs k) : ∀ n, k ≤ n → k ≤ metN p xs n
 | 0, hk => by omega
 | n + 1, hk => by
  unfold metN
  split
  ·exact hk
  ·rename_i hn
   rcases Nat.lt_or_ge n k with hlt | hge
   ·obtain rfl : k = n + 1 := by omega
    exact absurd h hn
   ·exact metN_max h n hge
theorem metF_ends (p xs : List Int) : Ends p xs (metF p xs) := metN_ends p xs _
theorem metF_max {p xs : List Int} {k : Nat} (h : Ends p xs k) : k ≤ metF p xs := metN_max h _ h.1
theorem metF_le (p xs : List Int) : metF p xs ≤ p.length := metN_le p xs _
theorem metF_eq {p xs : List Int} {k : Nat} (h : Ends p xs k) (hm : ∀ j, Ends p xs j → j ≤ k) : metF p xs = k := Nat.le_antisymm (hm _ (metF_ends p xs)) (metF_max h)
theorem Ends.len {p xs : List Int} {k : Nat} (h : Ends p xs k) : k ≤ xs.length := by
 have := h.2.length_le
 rw [List.length_take] at this
 have := h.1
 omega
theorem ends_snoc {p xs : List Int} {n : Int} {k : Nat} : Ends p (xs ++ [n]) (k + 1) ↔ Ends p xs k ∧ p[k]? = some n := by
 constructor
 ·rintro ⟨h1, h2⟩
  have hlt : k < p.length := by omega
  rw [List.take_add_one, List.getElem?_eq_getElem hlt] at h2
  obtain ⟨t, ht⟩ := h2
  rw [show (some p[k]).toList = [p[k]] from rfl, ← List.append_assoc] at ht
  obtain ⟨e1, e2⟩ := List.append_inj' ht rfl
  exact ⟨⟨by omega, ⟨t, e1⟩⟩, by rw [List.getElem?_eq_getElem hlt]; injection e2 with e2; rw [e2]⟩
 ·rintro ⟨⟨h1, t, ht⟩, h3⟩
  obtain ⟨hlt, h4⟩ := List.getElem?_eq_some_iff.1 h3
  refine ⟨by omega, t, ?_⟩
  rw [List.take_add_one, h3, show (some n).toList = [n] from rfl, ← List.append_assoc, ht]
def bk (p : List Int) (k : Nat) : Nat := metF p ((p.take k).drop 1)
theorem bk_lt {p : List Int} {k : Nat} (h : 0 < k) (hk : k ≤ p.length) : bk p k < k := by
 have := (metF_ends p ((p.take k).drop 1)).len
 rw [List.length_drop, List.length_take] at this
 unfold bk
 omega
theorem suffix_drop1 {a b : List Int} (h : a <:+ b) (hl : a.length < b.length) : a <:+ b.drop 1 := by
 obtain ⟨t, rfl⟩ := h
 cases t with
 | nil => simp at hl
 | cons x t => exact ⟨t, rfl⟩
theorem ends_bk {p xs : List Int} {j k : Nat} (hk : Ends p xs k) (hj : Ends p xs j) (hlt : j < k) : j ≤ bk p k := by
 refine metF_max ⟨hj.1, suffix_drop1 (List.suffix_of_suffix_length_le hj.2 hk.2 ?_) ?_⟩
 ·rw [List.length_take, List.length_take]; have := hk.1; omega
 ·rw [List.length_take, List.length_take]; have := hk.1; omega
theorem bk_ends {p xs : List Int} {k : Nat} (hk : Ends p xs k) : Ends p xs (bk p k) := by
 have h := metF_ends p ((p.take k).drop 1)
 exact ⟨h.1, h.2.trans ((List.drop_suffix 1 _).trans hk.2)⟩
def stepN (p : List Int) (n : Int) : Nat → Nat → Nat
 | 0, _ => 0
 | f + 1, k => if 0 < k ∧ (k = p.length ∨ p[k]? ≠ some n) then stepN p n f (bk p k) else if p[k]? = some n then k + 1 else k
theorem stepN_met {p xs : List Int} {n : Int} (hp : p ≠ []) : ∀ (f k : Nat), k < f → Ends p xs k → (∀ j, Ends p xs j → p[j]? = some n → j ≤ k) → stepN p n f k = metF p (xs ++ [n])
 | 0, k, hf, hk, hm => by omega
 | f + 1, k, hf, hk, hm => by
  unfold stepN
  by_cases hc : 0 < k ∧ (k = p.length ∨ p[k]? ≠ some n)
  ·rw [if_pos hc]
   have hb := bk_lt hc.1 hk.1
   refine stepN_met hp f (bk p k) (by omega) (bk_ends hk) (fun j hj hn => ?_)
   have hjk := hm j hj hn
   have hne : j ≠ k := by
    rintro rfl
    rcases hc.2 with h | h
    ·obtain ⟨hlt, _⟩ := List.getElem?_eq_some_iff.1 hn
     omega
    ·exact h hn
   exact ends_bk hk hj (by omega)
  ·rw [if_neg hc]
   by_cases hn : p[k]? = some n
   ·rw [if_pos hn]
    refine (metF_eq (ends_snoc.2 ⟨hk, hn⟩) (fun j hj => ?_)).symm
    cases j with
    | zero => omega
    | succ j =>
     obtain ⟨h1, h2⟩ := ends_snoc.1 hj
     have := hm j h1 h2
     omega
   ·rw [if_neg hn]
    have hk0 : k = 0 := by
     rcases Nat.eq_zero_or_pos k with h | h
     ·exact h
     ·exact absurd ⟨h, .inr hn⟩ hc
    subst hk0
    refine (metF_eq (Ends.zero _ _) (fun j hj => ?_)).symm
    cases j with
    | zero => omega
    | succ j =>
     obtain ⟨h1, h2⟩ := ends_snoc.1 hj
     have := hm j h1 h2
     obtain rfl : j = 0 := by omega
     exact absurd h2 hn
theorem step_met {p xs : List Int} {n : Int} (hp : p ≠ []) {f : Nat} (hf : p.length < f) : stepN p n f (metF p xs) = metF p (xs ++ [n]) :=
 stepN_met hp f _ (Nat.lt_of_le_of_lt (metF_le p xs) hf) (metF_ends p xs) (fun j hj _ => metF_max hj)
theorem bk_zero (p : List Int) : bk p 0 = 0 := by
 have := (metF_ends p ((p.take 0).drop 1)).len
 simp at this
 exact this
theorem bk_one (p : List Int) : bk p 1 = 0 := by
 have := (metF_ends p ((p.take 1).drop 1)).len
 rw [List.length_drop, List.length_take] at this
 unfold bk
 omega
theorem bk_step {p : List Int} (hp : p ≠ []) {i : Nat} (h1 : 1 ≤ i) (hi : i < p.length) {f : Nat} (hf : p.length < f) : stepN p p[i] f (bk p i) = bk p (i + 1) := by
 unfold bk
 rw [step_met hp hf]
 congr 1
 rw [List.take_add_one, List.getElem?_eq_getElem hi, List.drop_append_of_le_length (by rw [List.length_take]; omega)]
 rfl
end Go.Proofs.YtkffhgiiejbnaaaGreat.Sk
namespace Go.Proofs.YtkffhgiiejbnaaaGreat.Sk
open Go.Shelf Go.RowKit YtkffhgiiejbnaaaGreatW.PrintWords YtkffhgiiejbnaaaGreatW.PrintLast YtkffhgiiejbnaaaGreatW.PrintMore Rf Aid Mp Hp Vc En
def Rw (w : World) (v : Value) (xs : List Int) : Prop := Kd.R (Kd.int .i64) 3 w 0 (fun _ => True) v xs
theorem Rw.of {w : World} {b : Nat} {ok : Nat → Prop} {v : Value} {xs : List Int} (h : Kd.R (Kd.int .i64) 3 w b ok v xs) : Rw w v xs := Kd.R_lower (Kd.R_mono h (fun _ _ => trivial)) (Nat.zero_le _)
theorem Rw.below {w w' : World} {v : Value} {xs : List Int} (h : Rw w v xs) (hb : Below w.heap.size w w') : Rw w' v xs := Kd.R_below h hb
theorem Rw.form {w : World} {v : Value} {xs : List Int} (h : Rw w v xs) : ∃ A c, v = .slice A xs.length c := Kd.R_slice h
theorem Rw.rd {w : World} {A : Option Addr} {n c : Nat} {xs : List Int} (h : Rw w (.slice A n c) xs) : n = xs.length ∧ n ≤ c ∧ Kd.C (Kd.int .i64) w A xs.length xs := Kd.R_reads' h
def bkL (p : List Int) : List Int := (List.range (p.length + 1)).map (fun j => ((bk p j : Nat) : Int))
def bkI (p : List Int) (i : Nat) : List Int := (List.range (p.length + 1)).map (fun j => if j ≤ i then ((bk p j : Nat) : Int) else 0)
theorem bkI_len (p : List Int) (i : Nat) : (bkI p i).length = p.length + 1 := by simp [bkI]
theorem bkI_at {p : List Int} {i j : Nat} (hj : j ≤ i) (hl : j ≤ p.length) : (bkI p i)[j]? = some ((bk p j : Nat) : Int) := by
 unfold bkI
 rw [List.getElem?_map, List.getElem?_range (by omega)]
 simp [hj]
theorem bkI_all (p : List Int) : bkI p p.length = bkL p := by
 unfold bkI bkL
 refine List.map_congr_left fun j hj => ?_
 have := List.mem_range.1 hj
 rw [if_pos (by omega)]
theorem bkI_zero (p : List Int) : List.replicate (p.length + 1) (0 : Int) = bkI p 1 := by
 apply List.ext_getElem?
 intro j
 unfold bkI
 rw [List.getElem?_map]
 by_cases hj : j < p.length + 1
 ·rw [List.getElem?_range hj, List.getElem?_replicate, if_pos hj]
  simp only [Option.map_some]
  by_cases h1 : j ≤ 1
  ·rw [if_pos h1]
   rcases Nat.eq_zero_or_pos j with h0 | h0
   ·subst h0; rw [bk_zero]; rfl
   ·obtain rfl : j = 1 := by omega
    rw [bk_one]; rfl
  ·rw [if_neg h1]
 ·rw [List.getElem?_eq_none (by simp; omega), List.getElem?_eq_none (by simp; omega)]; rfl
theorem bkI_set {p : List Int} {i : Nat} : (bkI p i).set (i + 1) ((bk p (i + 1) : Nat) : Int) = bkI p (i + 1) := by
 apply List.ext_getElem?
 intro j
 rw [List.getElem?_set]
 unfold bkI
 rw [List.getElem?_map, List.getElem?_map]
 by_cases hj : j < p.length + 1
 ·rw [List.getElem?_range hj]
  simp only [Option.map_some, List.length_map, List.length_range]
  by_cases he : i + 1 = j
  ·subst he; rw [if_pos rfl, if_pos hj, if_pos (Nat.le_refl _)]
  ·rw [if_neg he]
   by_cases h1 : j ≤ i
   ·rw [if_pos h1, if_pos (by omega)]
   ·rw [if_neg h1, if_neg (by omega)]
 ·rw [List.getElem?_eq_none (by simp; omega)]
  simp only [Option.map_none, List.length_map, List.length_range]
  split
  ·rw [if_neg (by omega)]
  ·rfl
theorem step_run {p B : List Int} {n : Int} (hp : p ≠ []) (hB : B.length = p.length + 1) (hl : p.length ≤ 1000) :
  ∀ (f k K : Nat), k < f → f ≤ K → k ≤ p.length → (∀ j, 1 ≤ j → j ≤ k → B[j]? = some ((bk p j : Nat) : Int)) → seek_pattern_step.l0 K (k : Int) n p B = some ((stepN p n f k : Nat) : Int)
 | 0, k, K, h1, h2, h3, h4 => by omega
 | f + 1, k, K, h1, h2, h3, h4 => by
  obtain ⟨K, rfl⟩ : ∃ m, K = m + 1 := ⟨K - 1, by omega⟩
  have hpos := List.length_pos_iff.2 hp
  simp only [seek_pattern_step.l0, stepN]
  by_cases hk : 0 < k
  ·have hbk := bk_lt hk h3
   have hkB : k < B.length := by omega
   have hr : rd B (k : Int) = ((bk p k : Nat) : Int) := by
    have h := h4 k (by omega) (Nat.le_refl _)
    rw [List.getElem?_eq_getElem hkB] at h
    rw [rdI hkB]
    injection h
   have ih := step_run (n := n) hp hB hl f (bk p k) K (by omega) (by omega) (by omega) (fun j a b => h4 j a (by omega))
   rw [if_pos (by omega)]
   by_cases he : k = p.length
   ·rw [if_pos (by omega), if_pos (by omega), if_pos (by omega), hr, ih, if_pos ⟨hk, .inl he⟩]
   ·have hkp : k < p.length := by omega
    rw [if_neg (by omega), if_pos (by omega), if_pos (by omega), rdI hkp]
    by_cases hn : p[k] = n
    ·rw [if_pos hn, if_neg (by rintro ⟨_, h | h⟩; exact he h; exact h (by rw [List.getElem?_eq_getElem hkp, hn])), if_pos (by rw [List.getElem?_eq_getElem hkp, hn])]
     congr 1
     exact (w64 (by omega) (by omega)).trans (by omega)
    ·rw [if_neg hn, if_pos (by omega), hr, ih, if_pos ⟨hk, .inr (by rw [List.getElem?_eq_getElem hkp]; simpa using hn)⟩]
  ·obtain rfl : k = 0 := by omega
   rw [if_neg (by omega), if_pos (by omega), if_pos (by omega), rdI hpos]
   by_cases hn : p[0] = n
   ·rw [if_pos hn, if_neg (fun h => absurd h.1 (by omega)), if_pos (by rw [List.getElem?_eq_getElem hpos, hn])]
    congr 1
    exact (w64 (by omega) (by omega)).trans (by omega)
   ·rw [if_neg hn, if_neg (fun h => absurd h.1 (by omega)), if_neg (by rw [List.getElem?_eq_getElem hpos]; simpa using hn)]
theorem step_any {p B : List Int} {n : Int} {k : Nat} (hp : p ≠ []) (hB : B.length = p.length + 1) (hl : p.length ≤ 1000) (hk : k ≤ p.length) (hb : ∀ j, 1 ≤ j → j ≤ k → B[j]? = some ((bk p j : Nat) : Int)) {A A2 : Option Addr} {c c2 m : Nat} (w : World)
  (h1 : Kd.C (Kd.int .i64) w A p.length p) (hc1 : p.length ≤ c) (h2 : Kd.C (Kd.int .i64) w A2 B.length B) (hc2 : B.length ≤ c2) (hm : m = B.length) :
  Calls Tryz.prog 101 #[.agg #[.slice A p.length c, .slice A2 m c2], .int .i64 (k : Int), .int .i64 n] w fun e w' => e = .returned (.int .i64 ((stepN p n (p.length + 1) k : Nat) : Int)) ∧ Below w.heap.size w w' := by
 subst hm
 exact seek_pattern_step.calls (p.length + 1) A c p A2 c2 B (k : Int) n _ w h1 hc1 h2 hc2 (step_run hp hB hl (p.length + 1) k _ (by omega) (Nat.le_refl _) hk hb)
theorem makeB (n : Nat) (h : n ≤ 1000) (W : World) : (Instr.makeSlice 41 (.int .i64 ((n : Int) + 1)) (.int .i64 ((n : Int) + 1))).run Tryz.prog W = .ok (.slice (some ⟨W.heap.size, 0, none⟩) (n + 1) (n + 1)) (W.alloc (.cells (madeCells #[.int .i64 0] (n + 1)) 3)) :=
 print_make 41 3 .i64 8 Tryz.underlying41 (by kernel_rfl) (by omega) (n + 1) (by omega) W
theorem made_list (n : Nat) : (madeCells #[.int .i64 0] n).toList = List.replicate n (.int .i64 0) := by
 apply List.ext_getElem
 ·simp [madeCells]
 ·intro i h1 h2
  simp [madeCells, Nat.mod_one]
theorem zero_row (n : Nat) (h : n ≤ 100000) (W : World) : Kd.R (Kd.int .i64) 3 (W.alloc (.cells (madeCells #[.int .i64 0] n) 3)) W.heap.size (fun _ => True) (.slice (some ⟨W.heap.size, 0, none⟩) n n) (List.replicate n 0) := by
 refine ⟨fun _ _ => trivial, List.replicate n (.int .i64 0), ?_, ?_⟩
 ·rw [List.length_replicate]
  refine ⟨by simp [show (Kd.int .i64).sz = 1 from rfl], .inr ⟨W.heap.size, n, _, rfl, Nat.le_refl _, (Go.MapKept.heap_alloc W _).1, Nat.le_refl _, by show n ≤ 9223372036854775807; omega, by show (madeCells #[.int .i64 0] n).size = n * 1; simp [madeCells], by rw [made_list, List.take_of_length_le (by simp [show (Kd.int .i64).sz = 1 from rfl])]⟩⟩
 ·refine ⟨by simp [show (Kd.int .i64).sz = 1 from rfl], fun j p hj => ?_⟩
  rw [List.getElem?_replicate] at hj
  split at hj
  ·injection hj with hj
   subst hj
   rename_i hlt
   show ((List.replicate n (Value.int .i64 0)).drop (j * 1)).take 1 = _
   rw [Nat.mul_one, List.drop_replicate, List.take_replicate, show min 1 (n - j) = 1 by omega]
   rfl
  ·cases hj
end Go.Proofs.YtkffhgiiejbnaaaGreat.Sk
namespace Go.Proofs.YtkffhgiiejbnaaaGreat.Sk
open Go.Shelf Go.RowKit YtkffhgiiejbnaaaGreatW.PrintWords YtkffhgiiejbnaaaGreatW.PrintLast YtkffhgiiejbnaaaGreatW.PrintMore Rf Aid Mp Hp Vc En
theorem own_ne {W : World} {base g n c b t : Nat} {ok : Nat → Prop} {xs : List Int} {cs : Array Value} (h : Kd.R (Kd.int .i64) 3 W base ok (.slice (some ⟨g, 0, none⟩) n c) xs) (hb : W.heap[b]? = some (.cells cs t (0, 0))) (ht : t ≠ 3) : b ≠ g := by
 rintro rfl
 obtain ⟨_, _, _, q, hq, cells, hc⟩ := (Kd.R_bound h).1 b rfl
 rw [hb] at hc
 injection hc with hc
 injection hc with _ ht' _
 exact ht (ht'.trans (by simpa [show (Kd.int .i64).E = [] from rfl] using hq))
theorem own_froz {W : World} {base g n c : Nat} {ok : Nat → Prop} {xs : List Int} (h : Kd.R (Kd.int .i64) 3 W base ok (.slice (some ⟨g, 0, none⟩) n c) xs) (j : Nat) : W.frozen? ⟨g, j, none⟩ = false := by
 obtain ⟨_, _, _, q, hq, cells, hc⟩ := (Kd.R_bound h).1 g rfl
 exact blk_frozen hc j
theorem own_cell {W : World} {base g n c : Nat} {ok : Nat → Prop} {xs : List Int} (h : Kd.R (Kd.int .i64) 3 W base ok (.slice (some ⟨g, 0, none⟩) n c) xs) {j : Nat} {x : Int} (hx : xs[j]? = some x) : W.cell? ⟨g, j, none⟩ = some (.int .i64 x) := by
 have h2 := rd_ad (Kd.R_reads' h).2.2 hx
 rw [show (⟨g, 0, none⟩ : Addr).add j = ⟨g, j, none⟩ by unfold Addr.add; split <;> simp_all] at h2
 exact h2
theorem R_ne {W : World} {base g : Nat} {ok : Nat → Prop} {v : Value} {xs : List Int} (h : Kd.R (Kd.int .i64) 3 W base ok v xs) (hg : g < base ∨ W.heap.size ≤ g) : Kd.R (Kd.int .i64) 3 W base (fun k => k ≠ g) v xs :=
 ⟨fun k hk e => by
  have := (Kd.R_bound h).1 k hk
  have h1 := this.2.1
  have h2 := this.2.2.1
  omega, h.2⟩
theorem cloneR (ad : Addr) (c : Nat) (l : List Int) (w : World) (hr : Kd.C (Kd.int .i64) w (some ad) l.length l) (hl : l.length ≤ 200000000) :
  Calls Tryz.prog 58 #[.slice (some ad) l.length c] w fun e w' => ∃ A' c', e = .returned (.slice A' l.length c') ∧ Kd.R (Kd.int .i64) 3 w' w.heap.size (fun _ => True) (.slice A' l.length c') l ∧ Below w.heap.size w w' := by
 have HR := As.mk hr
 clear hr
 have q22 : ∀ (w : World) (a : Option Addr) (n c n' c' : Nat), (binOp .eql 41 (.slice a n c) (.slice none n' c')).run Tryz.prog w = .ok (.bool a.isNone) w := fun w a n c n' c' => Lib.run_eql_slice_nil w _ _ a n c n' c' Tryz.underlying41
 go_enter Tryz.func58, Tryz.ntmps58
 go_wp2_with ((with_reducible refine gate_builtin (b := .append) (xs := #[.tmp 5, .tmp 6]) rfl ?_); at_builtin; refine Kd.R_append_rows (Kd.int .i64) (Rr := (Kd.int .i64).K w) (w0 := w) w.heap.size rfl (.tmp 5) (.tmp 6) 41 3 (.int .i64 0) 8 rfl Tryz.underlying41 info3 rfl (by decide) (by omega) (.slice (some ⟨w.heap.size, 0, none⟩) 0 0) [] l (some ad) l.length c (fun _ => True) (fun _ => False) (by rfl) (by rfl) ?q1 ?q2 ?q3 (fun _ hk => hk.elim) (fun _ _ => trivial) ?q4 ?q5 ?q6 ?_)
 case q1 => exact ⟨fun _ _ => trivial, [], World.ownsRow_made w #[] 0 (Nat.le_refl _) (Nat.zero_le _) (by simp), Reps.none _ _⟩
 case q2 => exact HR.out.imp_ (below_alloc (Below.refl _ _) _) (fun _ _ h => h)
 case q3 => intro x cs hk; exact hk
 case q4 => exact below_alloc (Below.refl _ _) _
 case q5 => simp
 case q6 => simp; omega
 intro v1 w1 ho hb hg hat
 obtain ⟨A1, c1, rfl, hc1, hr1⟩ := Kd.R_reads ho
 have HR1 := As.mk ho
 have HB1 := As.mk hb
 clear ho hb hg hat hr1
 go_wp2
 go_ret
 exact ⟨A1, c1, rfl, HR1.out, HB1.out⟩
theorem of_any {p : List Int} (hp : p ≠ []) (hl : p.length ≤ 1000) {A : Option Addr} {c : Nat} (w : World) (hr : Kd.C (Kd.int .i64) w A p.length p) :
  Calls Tryz.prog 81 #[.slice A p.length c] w fun e w' => ∃ (A' : Option Addr) (c' g : Nat), e = .returned (.agg #[.slice A' p.length c', .slice (some ⟨g, 0, none⟩) (p.length + 1) (p.length + 1)]) ∧ Rw w' (.slice A' p.length c') p ∧ Rw w' (.slice (some ⟨g, 0, none⟩) (p.length + 1) (p.length + 1)) (bkL p) ∧ Below w.heap.size w w' := by
 have hpos := List.length_pos_iff.2 hp
 have HL := As.mk hl
 have HP := As.mk hp
 obtain ⟨ad, rfl, _⟩ := rd_at hr (List.getElem?_eq_getElem hpos)
 have HR := As.mk hr
 have hwl : wrap64 ((p.length : Int) + 1) = (p.length : Int) + 1 := w64 (by omega) (by omega)
 have HB2 := As.mk (below_alloc (Below.refl w.heap.size w) (.cells #[.slice none 0 0, .slice none 0 0] 116))
 have HN := As.mk (Go.MapKept.heap_alloc w (.cells #[.slice none 0 0, .slice none 0 0] 116)).1
 clear hr hl hp
 go_enter Tryz.func81, Tryz.ntmps81
 go_wp2_with fail
 generalize w.alloc (.cells #[.slice none 0 0, .slice none 0 0] 116) = w2 at HB2 HN ⊢
 refine start_ (n := 9) (S := fun w' => Below w2.heap.size w2 w') (ds := []) #[false, false, false, false, false, false, false, false, false] (by kernel_rfl) rfl rfl (below_drew1 (Below.refl _ _)) (fun hHeld => ?_)
 refine pI 0 (some 6) (bs 9 1) ?_
 refine pI 2 (some 8) (bs 9 5) ?_
 refine pI 3 (some 9) (bs 9 13) ?_
 refine pI 4 (some 10) (bs 9 29) ?_
 have hS0 := hHeld
 clear hHeld
 generalize w2.drew = V0 at hS0 ⊢
 refine join_ 1 #[true, true, true, true, true, true, true, true, false] (fun (q : Option Addr × Nat × Nat × Nat) => [(7, .slice q.1 p.length q.2.1), (11, .slice (some ⟨q.2.2.1, 0, none⟩) (p.length + 1) (p.length + 1)), (12, .agg #[.slice q.1 p.length q.2.1, .slice (some ⟨q.2.2.1, 0, none⟩) (p.length + 1) (p.length + 1)]), (3, .pointer (some ⟨q.2.2.2, 0, none⟩))])
  (fun q W => Below w2.heap.size w2 W ∧ Kd.R (Kd.int .i64) 3 W w2.heap.size (fun k => k ≠ q.2.2.1) (.slice q.1 p.length q.2.1) p ∧ Kd.R (Kd.int .i64) 3 W w2.heap.size (fun _ => True) (.slice (some ⟨q.2.2.1, 0, none⟩) (p.length + 1) (p.length + 1)) (List.replicate (p.length + 1) 0) ∧ W.heap[q.2.2.2]? = some (.cells #[.slice none 0 0, .slice none 0 0] 116 (0, 0)) ∧ w2.heap.size ≤ q.2.2.1 ∧ w2.heap.size ≤ q.2.2.2) ?_ ?_
 rotate_left
 ·intro hcont
  refine three_ (i := 1) (j := 5) (k := 7) (Ni := some 7) (Nj := some 11) (Nk := some 3) #[true, true, true, true, true, false, false, false, false] #[true, false, true, true, true, true, false, false, false] #[true, false, true, true, true, false, false, true, false] rfl rfl rfl rfl rfl rfl (by kernel_rfl) (by decide) (by decide) (by decide) (fun K hK => ?_) (fun K hK => ?_) (fun K hK => ?_)
  ·refine goes_ Tryz.func58 (by kernel_rfl) rfl #[.slice (some ad) p.length c] (by rfl) rfl rfl (by simp [Act.eval]) ?_
   refine (cloneR ad c p V0 (Kd.C_below HR.out (HB2.out.trans (hS0.mono HB2.out.size))) (by have := HL.out; omega)).mono ?_
   rintro e V1 ⟨A', c', rfl, ho, hb1⟩
   refine ⟨_, rfl, ?_⟩
   have hS1 := bt_ hS0 hb1
   refine hK.out _ _ hS1 (fun _ => ?_)
   clear hK K
   refine nI ?_
   refine two_ (i := 5) (j := 7) (Ni := some 11) (Nj := some 3) #[true, true, true, true, true, true, false, false, false] #[true, true, true, true, true, false, false, true, false] rfl rfl rfl rfl (by kernel_rfl) (by decide) (by decide) (fun K hK => ?_) (fun K hK => ?_)
   ·have hm := makeB p.length (by have := HL.out; omega) V1
    refine value_ (w1 := V1.alloc (.cells (madeCells #[.int .i64 0] (p.length + 1)) 3)) (v := .slice (some ⟨V1.heap.size, 0, none⟩) (p.length + 1) (p.length + 1)) (by rfl) rfl ?_ ?_
    ·first | (go_simp; done) | (go_simp; rfl)
    have hz := zero_row (p.length + 1) (by have := HL.out; omega) V1
    have hb2 := below_alloc (Below.refl V1.heap.size V1) (.cells (madeCells #[.int .i64 0] (p.length + 1)) 3)
    have hgl := blk_lt (Go.MapKept.heap_alloc V1 (.cells (madeCells #[.int .i64 0] (p.length + 1)) 3)).1
    generalize V1.alloc (.cells (madeCells #[.int .i64 0] (p.length + 1)) 3) = V2 at hz hb2 hgl ⊢
    have hS2 := bt_ hS1 hb2
    clear hm
    refine hK.out _ _ hS2 (fun _ => ?_)
    clear hK K
    refine nI ?_
    refine pI 6 (some 12) (bs 9 127) ?_
    refine one_ (i := 7) (N := some 3) (bs 9 255) rfl rfl (by kernel_rfl) (by decide) (fun K hK => ?_)
    refine value_ (w1 := V2.alloc (.cells #[.slice none 0 0, .slice none 0 0] 116)) (v := .pointer (some ⟨V2.heap.size, 0, none⟩)) (by rfl) rfl ?_ ?_
    ·first | (go_simp; done) | (go_simp; rfl)
    have hb3 := below_alloc (Below.refl V2.heap.size V2) (.cells #[.slice none 0 0, .slice none 0 0] 116)
    have hX := (Go.MapKept.heap_alloc V2 (.cells #[.slice none 0 0, .slice none 0 0] 116)).1
    generalize V2.alloc (.cells #[.slice none 0 0, .slice none 0 0] 116) = V3 at hX hb3 ⊢
    have hS3 := bt_ hS2 hb3
    refine hK.out _ _ hS3 (fun _ => ?_)
    clear hK K
    refine nI ?_
    have hq : V1.heap.size ≤ V1.heap.size := by have q1 := hb1.size; have q2 := hb2.size; have q3 := hb3.size; omega
    have hne := R_ne ho (g := V1.heap.size) (.inr hq)
    have hA := Kd.R_lower hne hS0.size
    replace hA := Kd.R_below hA hb2
    replace hA := Kd.R_below hA hb3
    have hG := Kd.R_lower hz hS1.size
    replace hG := Kd.R_below hG hb3
    exact norm_ (by first | (simp only [Act.put, putAll, List.setIfInBounds_toArray, List.set_cons_zero, List.set_cons_succ]; done) | (simp only [Act.put, putAll, List.setIfInBounds_toArray, List.set_cons_zero, List.set_cons_succ]; rfl)) (hcont ⟨A', c', V1.heap.size, V2.heap.size⟩ _ ⟨hS3, hA, hG, hX, hS1.size, hS2.size⟩)
   ·refine value_ (w1 := V1.alloc (.cells #[.slice none 0 0, .slice none 0 0] 116)) (v := .pointer (some ⟨V1.heap.size, 0, none⟩)) (by rfl) rfl ?_ ?_
    ·first | (go_simp; done) | (go_simp; rfl)
    have hb2 := below_alloc (Below.refl V1.heap.size V1) (.cells #[.slice none 0 0, .slice none 0 0] 116)
    have hX := (Go.MapKept.heap_alloc V1 (.cells #[.slice none 0 0, .slice none 0 0] 116)).1
    generalize V1.alloc (.cells #[.slice none 0 0, .slice none 0 0] 116) = V2 at hX hb2 ⊢
    have hS2 := bt_ hS1 hb2
    refine hK.out _ _ hS2 (fun _ => ?_)
    clear hK K
    refine nI ?_
    refine one_ (i := 5) (N := some 11) (bs 9 191) rfl rfl (by kernel_rfl) (by decide) (fun K hK => ?_)
    have hm := makeB p.length (by have := HL.out; omega) V2
    refine value_ (w1 := V2.alloc (.cells (madeCells #[.int .i64 0] (p.length + 1)) 3)) (v := .slice (some ⟨V2.heap.size, 0, none⟩) (p.length + 1) (p.length + 1)) (by rfl) rfl ?_ ?_
    ·first | (go_simp; done) | (go_simp; rfl)
    have hz := zero_row (p.length + 1) (by have := HL.out; omega) V2
    have hb3 := below_alloc (Below.refl V2.heap.size V2) (.cells (madeCells #[.int .i64 0] (p.length + 1)) 3)
    have hgl := blk_lt (Go.MapKept.heap_alloc V2 (.cells (madeCells #[.int .i64 0] (p.length + 1)) 3)).1
    generalize V2.alloc (.cells (madeCells #[.int .i64 0] (p.length + 1)) 3) = V3 at hz hb3 hgl ⊢
    have hS3 := bt_ hS2 hb3
    clear hm
    refine hK.out _ _ hS3 (fun _ => ?_)
    clear hK K
    refine nI ?_
    refine pI 6 (some 12) (bs 9 255) ?_
    have hq : V1.heap.size ≤ V2.heap.size := by have q1 := hb1.size; have q2 := hb2.size; have q3 := hb3.size; omega
    have hne := R_ne ho (g := V2.heap.size) (.inr hq)
    have hA := Kd.R_lower hne hS0.size
    replace hA := Kd.R_below hA hb2
    replace hA := Kd.R_below hA hb3
    have hG := Kd.R_lower hz hS2.size
    replace hX := (hb3.block _ (blk_lt hX)).trans hX
    exact norm_ (by first | (simp only [Act.put, putAll, List.setIfInBounds_toArray, List.set_cons_zero, List.set_cons_succ]; done) | (simp only [Act.put, putAll, List.setIfInBounds_toArray, List.set_cons_zero, List.set_cons_succ]; rfl)) (hcont ⟨A', c', V2.heap.size, V1.heap.size⟩ _ ⟨hS3, hA, hG, hX, hS2.size, hS1.size⟩)
  ·have hm := makeB p.length (by have := HL.out; omega) V0
   refine value_ (w1 := V0.alloc (.cells (madeCells #[.int .i64 0] (p.length + 1)) 3)) (v := .slice (some ⟨V0.heap.size, 0, none⟩) (p.length + 1) (p.length + 1)) (by rfl) rfl ?_ ?_
   ·first | (go_simp; done) | (go_simp; rfl)
   have hz := zero_row (p.length + 1) (by have := HL.out; omega) V0
   have hb1 := below_alloc (Below.refl V0.heap.size V0) (.cells (madeCells #[.int .i64 0] (p.length + 1)) 3)
   have hgl := blk_lt (Go.MapKept.heap_alloc V0 (.cells (madeCells #[.int .i64 0] (p.length + 1)) 3)).1
   generalize V0.alloc (.cells (madeCells #[.int .i64 0] (p.length + 1)) 3) = V1 at hz hb1 hgl ⊢
   have hS1 := bt_ hS0 hb1
   clear hm
   refine hK.out _ _ hS1 (fun _ => ?_)
   clear hK K
   refine nI ?_
   refine two_ (i := 1) (j := 7) (Ni := some 7) (Nj := some 3) #[true, true, true, true, true, true, false, false, false] #[true, false, true, true, true, true, false, true, false] rfl rfl rfl rfl (by kernel_rfl) (by decide) (by decide) (fun K hK => ?_) (fun K hK => ?_)
   ·refine goes_ Tryz.func58 (by kernel_rfl) rfl #[.slice (some ad) p.length c] (by rfl) rfl rfl (by simp [Act.eval]) ?_
    refine (cloneR ad c p V1 (Kd.C_below HR.out (HB2.out.trans (hS1.mono HB2.out.size))) (by have := HL.out; omega)).mono ?_
    rintro e V2 ⟨A', c', rfl, ho, hb2⟩
    refine ⟨_, rfl, ?_⟩
    have hS2 := bt_ hS1 hb2
    refine hK.out _ _ hS2 (fun _ => ?_)
    clear hK K
    refine nI ?_
    refine pI 6 (some 12) (bs 9 127) ?_
    refine one_ (i := 7) (N := some 3) (bs 9 255) rfl rfl (by kernel_rfl) (by decide) (fun K hK => ?_)
    refine value_ (w1 := V2.alloc (.cells #[.slice none 0 0, .slice none 0 0] 116)) (v := .pointer (some ⟨V2.heap.size, 0, none⟩)) (by rfl) rfl ?_ ?_
    ·first | (go_simp; done) | (go_simp; rfl)
    have hb3 := below_alloc (Below.refl V2.heap.size V2) (.cells #[.slice none 0 0, .slice none 0 0] 116)
    have hX := (Go.MapKept.heap_alloc V2 (.cells #[.slice none 0 0, .slice none 0 0] 116)).1
    generalize V2.alloc (.cells #[.slice none 0 0, .slice none 0 0] 116) = V3 at hX hb3 ⊢
    have hS3 := bt_ hS2 hb3
    refine hK.out _ _ hS3 (fun _ => ?_)
    clear hK K
    refine nI ?_
    have hq : V0.heap.size < V1.heap.size := by have q1 := hb1.size; have q2 := hb2.size; have q3 := hb3.size; omega
    have hne := R_ne ho (g := V0.heap.size) (.inl hq)
    have hA := Kd.R_lower hne hS1.size
    replace hA := Kd.R_below hA hb3
    have hG := Kd.R_lower hz hS0.size
    replace hG := Kd.R_below hG hb2
    replace hG := Kd.R_below hG hb3
    exact norm_ (by first | (simp only [Act.put, putAll, List.setIfInBounds_toArray, List.set_cons_zero, List.set_cons_succ]; done) | (simp only [Act.put, putAll, List.setIfInBounds_toArray, List.set_cons_zero, List.set_cons_succ]; rfl)) (hcont ⟨A', c', V0.heap.size, V2.heap.size⟩ _ ⟨hS3, hA, hG, hX, hS0.size, hS2.size⟩)
   ·refine value_ (w1 := V1.alloc (.cells #[.slice none 0 0, .slice none 0 0] 116)) (v := .pointer (some ⟨V1.heap.size, 0, none⟩)) (by rfl) rfl ?_ ?_
    ·first | (go_simp; done) | (go_simp; rfl)
    have hb2 := below_alloc (Below.refl V1.heap.size V1) (.cells #[.slice none 0 0, .slice none 0 0] 116)
    have hX := (Go.MapKept.heap_alloc V1 (.cells #[.slice none 0 0, .slice none 0 0] 116)).1
    generalize V1.alloc (.cells #[.slice none 0 0, .slice none 0 0] 116) = V2 at hX hb2 ⊢
    have hS2 := bt_ hS1 hb2
    refine hK.out _ _ hS2 (fun _ => ?_)
    clear hK K
    refine nI ?_
    refine one_ (i := 1) (N := some 7) (bs 9 191) rfl rfl (by kernel_rfl) (by decide) (fun K hK => ?_)
    refine goes_ Tryz.func58 (by kernel_rfl) rfl #[.slice (some ad) p.length c] (by rfl) rfl rfl (by simp [Act.eval]) ?_
    refine (cloneR ad c p V2 (Kd.C_below HR.out (HB2.out.trans (hS2.mono HB2.out.size))) (by have := HL.out; omega)).mono ?_
    rintro e V3 ⟨A', c', rfl, ho, hb3⟩
    refine ⟨_, rfl, ?_⟩
    have hS3 := bt_ hS2 hb3
    refine hK.out _ _ hS3 (fun _ => ?_)
    clear hK K
    refine nI ?_
    refine pI 6 (some 12) (bs 9 255) ?_
    have hq : V0.heap.size < V2.heap.size := by have q1 := hb1.size; have q2 := hb2.size; have q3 := hb3.size; omega
    have hne := R_ne ho (g := V0.heap.size) (.inl hq)
    have hA := Kd.R_lower hne hS2.size
    have hG := Kd.R_lower hz hS0.size
    replace hG := Kd.R_below hG hb2
    replace hG := Kd.R_below hG hb3
    replace hX := (hb3.block _ (blk_lt hX)).trans hX
    exact norm_ (by first | (simp only [Act.put, putAll, List.setIfInBounds_toArray, List.set_cons_zero, List.set_cons_succ]; done) | (simp only [Act.put, putAll, List.setIfInBounds_toArray, List.set_cons_zero, List.set_cons_succ]; rfl)) (hcont ⟨A', c', V0.heap.size, V1.heap.size⟩ _ ⟨hS3, hA, hG, hX, hS0.size, hS1.size⟩)
  ·refine value_ (w1 := V0.alloc (.cells #[.slice none 0 0, .slice none 0 0] 116)) (v := .pointer (some ⟨V0.heap.size, 0, none⟩)) (by rfl) rfl ?_ ?_
   ·first | (go_simp; done) | (go_simp; rfl)
   have hb1 := below_alloc (Below.refl V0.heap.size V0) (.cells #[.slice none 0 0, .slice none 0 0] 116)
   have hX := (Go.MapKept.heap_alloc V0 (.cells #[.slice none 0 0, .slice none 0 0] 116)).1
   generalize V0.alloc (.cells #[.slice none 0 0, .slice none 0 0] 116) = V1 at hX hb1 ⊢
   have hS1 := bt_ hS0 hb1
   refine hK.out _ _ hS1 (fun _ => ?_)
   clear hK K
   refine nI ?_
   refine two_ (i := 1) (j := 5) (Ni := some 7) (Nj := some 11) #[true, true, true, true, true, false, false, true, false] #[true, false, true, true, true, true, false, true, false] rfl rfl rfl rfl (by kernel_rfl) (by decide) (by decide) (fun K hK => ?_) (fun K hK => ?_)
   ·refine goes_ Tryz.func58 (by kernel_rfl) rfl #[.slice (some ad) p.length c] (by rfl) rfl rfl (by simp [Act.eval]) ?_
    refine (cloneR ad c p V1 (Kd.C_below HR.out (HB2.out.trans (hS1.mono HB2.out.size))) (by have := HL.out; omega)).mono ?_
    rintro e V2 ⟨A', c', rfl, ho, hb2⟩
    refine ⟨_, rfl, ?_⟩
    have hS2 := bt_ hS1 hb2
    refine hK.out _ _ hS2 (fun _ => ?_)
    clear hK K
    refine nI ?_
    refine one_ (i := 5) (N := some 11) (bs 9 191) rfl rfl (by kernel_rfl) (by decide) (fun K hK => ?_)
    have hm := makeB p.length (by have := HL.out; omega) V2
    refine value_ (w1 := V2.alloc (.cells (madeCells #[.int .i64 0] (p.length + 1)) 3)) (v := .slice (some ⟨V2.heap.size, 0, none⟩) (p.length + 1) (p.length + 1)) (by rfl) rfl ?_ ?_
    ·first | (go_simp; done) | (go_simp; rfl)
    have hz := zero_row (p.length + 1) (by have := HL.out; omega) V2
    have hb3 := below_alloc (Below.refl V2.heap.size V2) (.cells (madeCells #[.int .i64 0] (p.length + 1)) 3)
    have hgl := blk_lt (Go.MapKept.heap_alloc V2 (.cells (madeCells #[.int .i64 0] (p.length + 1)) 3)).1
    generalize V2.alloc (.cells (madeCells #[.int .i64 0] (p.length + 1)) 3) = V3 at hz hb3 hgl ⊢
    have hS3 := bt_ hS2 hb3
    clear hm
    refine hK.out _ _ hS3 (fun _ => ?_)
    clear hK K
    refine nI ?_
    refine pI 6 (some 12) (bs 9 255) ?_
    have hq : V2.heap.size ≤ V2.heap.size := by have q1 := hb1.size; have q2 := hb2.size; have q3 := hb3.size; omega
    have hne := R_ne ho (g := V2.heap.size) (.inr hq)
    have hA := Kd.R_lower hne hS1.size
    replace hA := Kd.R_below hA hb3
    have hG := Kd.R_lower hz hS2.size
    replace hX := (hb2.block _ (blk_lt hX)).trans hX
    replace hX := (hb3.block _ (blk_lt hX)).trans hX
    exact norm_ (by first | (simp only [Act.put, putAll, List.setIfInBounds_toArray, List.set_cons_zero, List.set_cons_succ]; done) | (simp only [Act.put, putAll, List.setIfInBounds_toArray, List.set_cons_zero, List.set_cons_succ]; rfl)) (hcont ⟨A', c', V2.heap.size, V0.heap.size⟩ _ ⟨hS3, hA, hG, hX, hS2.size, hS0.size⟩)
   ·have hm := makeB p.length (by have := HL.out; omega) V1
    refine value_ (w1 := V1.alloc (.cells (madeCells #[.int .i64 0] (p.length + 1)) 3)) (v := .slice (some ⟨V1.heap.size, 0, none⟩) (p.length + 1) (p.length + 1)) (by rfl) rfl ?_ ?_
    ·first | (go_simp; done) | (go_simp; rfl)
    have hz := zero_row (p.length + 1) (by have := HL.out; omega) V1
    have hb2 := below_alloc (Below.refl V1.heap.size V1) (.cells (madeCells #[.int .i64 0] (p.length + 1)) 3)
    have hgl := blk_lt (Go.MapKept.heap_alloc V1 (.cells (madeCells #[.int .i64 0] (p.length + 1)) 3)).1
    generalize V1.alloc (.cells (madeCells #[.int .i64 0] (p.length + 1)) 3) = V2 at hz hb2 hgl ⊢
    have hS2 := bt_ hS1 hb2
    clear hm
    refine hK.out _ _ hS2 (fun _ => ?_)
    clear hK K
    refine nI ?_
    refine one_ (i := 1) (N := some 7) (bs 9 191) rfl rfl (by kernel_rfl) (by decide) (fun K hK => ?_)
    refine goes_ Tryz.func58 (by kernel_rfl) rfl #[.slice (some ad) p.length c] (by rfl) rfl rfl (by simp [Act.eval]) ?_
    refine (cloneR ad c p V2 (Kd.C_below HR.out (HB2.out.trans (hS2.mono HB2.out.size))) (by have := HL.out; omega)).mono ?_
    rintro e V3 ⟨A', c', rfl, ho, hb3⟩
    refine ⟨_, rfl, ?_⟩
    have hS3 := bt_ hS2 hb3
    refine hK.out _ _ hS3 (fun _ => ?_)
    clear hK K
    refine nI ?_
    refine pI 6 (some 12) (bs 9 255) ?_
    have hq : V1.heap.size < V2.heap.size := by have q1 := hb1.size; have q2 := hb2.size; have q3 := hb3.size; omega
    have hne := R_ne ho (g := V1.heap.size) (.inl hq)
    have hA := Kd.R_lower hne hS2.size
    have hG := Kd.R_lower hz hS1.size
    replace hG := Kd.R_below hG hb3
    replace hX := (hb2.block _ (blk_lt hX)).trans hX
    replace hX := (hb3.block _ (blk_lt hX)).trans hX
    exact norm_ (by first | (simp only [Act.put, putAll, List.setIfInBounds_toArray, List.set_cons_zero, List.set_cons_succ]; done) | (simp only [Act.put, putAll, List.setIfInBounds_toArray, List.set_cons_zero, List.set_cons_succ]; rfl)) (hcont ⟨A', c', V1.heap.size, V0.heap.size⟩ _ ⟨hS3, hA, hG, hX, hS1.size, hS0.size⟩)
 ·rintro ⟨A', c', g, b⟩ w8 ⟨hS8, hA8, hG8, hX8, hg8, hb8⟩
  simp only at hA8 hG8 hX8 hg8 hb8
  refine norm_ (a' := ?_) ?_ ?_
  rotate_left
  ·(simp only [Act.put, putAll, List.setIfInBounds_toArray, List.set_cons_zero, List.set_cons_succ]; rfl)
  have f0 := cell_of (i := 0) hX8 rfl
  have f1 := cell_of (i := 1) hX8 rfl
  have z0 := frozen_of hX8 0
  have z1 := frozen_of hX8 1
  refine one_ (i := 8) (N := none) (bs 9 511) rfl rfl (by kernel_rfl) (by decide) (fun K hK => ?_)
  have hS9 := (hS8.setCell (p := ⟨b, 0, none⟩) hb8 (.slice A' p.length c')).setCell (p := ⟨b, 1, none⟩) hb8 (.slice (some ⟨g, 0, none⟩) (p.length + 1) (p.length + 1))
  refine skip_ (w1 := (w8.setCell ⟨b, 0, none⟩ (.slice A' p.length c')).setCell ⟨b, 1, none⟩ (.slice (some ⟨g, 0, none⟩) (p.length + 1) (p.length + 1))) (by rfl) rfl ?_ ?_
  ·first | (go_simp; done) | (go_simp; rfl)
  refine hK.out _ _ hS9 (fun _ => ?_)
  clear hK K
  refine done_ (by kernel_rfl) ?_
  have hA9 := Kd.R_set (Kd.R_set hA8 hX8 (by decide) 0 (.slice A' p.length c')) (blk_set hX8 0 _) (by decide) 1 (.slice (some ⟨g, 0, none⟩) (p.length + 1) (p.length + 1))
  have hG9 := Kd.R_set (Kd.R_set hG8 hX8 (by decide) 0 (.slice A' p.length c')) (blk_set hX8 0 _) (by decide) 1 (.slice (some ⟨g, 0, none⟩) (p.length + 1) (p.length + 1))
  have hX9 := blk_set (blk_set hX8 0 (.slice A' p.length c')) 1 (.slice (some ⟨g, 0, none⟩) (p.length + 1) (p.length + 1))
  rw [bkI_zero] at hG9
  have HA9 := As.mk hA9
  have HG9 := As.mk hG9
  have HX9 := As.mk hX9
  have HS9 := As.mk hS9
  have HGB := As.mk (And.intro hg8 hb8)
  clear hA8 hG8 hX8 hS8 hA9 hG9 hX9 hS9 f0 f1 z0 z1 hg8 hb8
  generalize (w8.setCell ⟨b, 0, none⟩ (.slice A' p.length c')).setCell ⟨b, 1, none⟩ (.slice (some ⟨g, 0, none⟩) (p.length + 1) (p.length + 1)) = w9 at HA9 HG9 HX9 HS9 ⊢
  go_wp2_with fail
  go_loopg [4, 5] p.length (fun k v4 v5 W => ∃ (i : Nat), v5 = .int .i64 (i : Int) ∧ v4 = .int .i64 ((bk p i : Nat) : Int) ∧ 1 ≤ i ∧ i ≤ p.length ∧ As (p.length - i ≤ k) ∧ As (Below w2.heap.size w2 W) ∧ As (Kd.R (Kd.int .i64) 3 W w2.heap.size (fun k => k ≠ g) (.slice A' p.length c') p) ∧ As (Kd.R (Kd.int .i64) 3 W w2.heap.size (fun _ => True) (.slice (some ⟨g, 0, none⟩) (p.length + 1) (p.length + 1)) (bkI p i)) ∧ As (W.heap[b]? = some (.cells #[.slice A' p.length c', .slice (some ⟨g, 0, none⟩) (p.length + 1) (p.length + 1)] 116 (0, 0))))
  case atStart => exact ⟨1, rfl, by rw [bk_one]; rfl, Nat.le_refl _, hpos, ⟨by omega⟩, HS9, HA9, HG9, HX9⟩
  case round =>
   clear HS9 HA9 HG9 HX9
   obtain ⟨i, rfl, rfl, hi1, hi, HK, HW, HA, HG, HX⟩ := hrel
   rename World => W
   have f0 := cell_of (i := 0) HX.out rfl
   have f1 := cell_of (i := 1) HX.out rfl
   by_cases hlt : i < p.length
   ·obtain ⟨k1, rfl⟩ : ∃ k1, gk = k1 + 1 := ⟨gk - 1, by have := HK.out; omega⟩
    have hltI : (i : Int) < (p.length : Int) := by omega
    have hltJ : (i : Int) + 1 < ((p.length + 1 : Nat) : Int) := by omega
    have hltK : (i : Int) + 1 < (p.length : Int) + 1 := by omega
    have hw1 : wrap64 ((i : Int) + 1) = (i : Int) + 1 := w64 (by omega) (by have := HL.out; omega)
    have HY := As.mk (List.getElem?_eq_getElem hlt)
    have HST := As.mk (bk_step HP.out hi1 hlt (f := p.length + 1) (by omega))
    generalize p[i] = y at *
    go_wp2_with fail
    refine start_ (n := 8) (S := fun w' => Below W.heap.size W w') (ds := []) #[false, false, false, false, false, false, false, false] (by kernel_rfl) rfl rfl (below_drew1 (Below.refl _ _)) (fun hHeld => ?_)
    have HD3 := As.mk (below_drew1 (Below.refl W.heap.size W)); clear hHeld; generalize W.drew = w3 at HD3 ⊢; have hHeld := HD3.out
    refine pI 1 (some 20) (bs 8 2) ?_
    refine pI 2 (some 21) (bs 8 6) ?_
    refine pI 3 (some 22) (bs 8 14) ?_
    refine pI 4 (some 23) (bs 8 30) ?_
    refine tI 0 (some 19) (bs 8 31) rfl (by intro w' hS'; have s0 := hS'; have hx := (hS'.block _ (blk_lt HX.out)).trans HX.out; have g0 := cell_of (i := 0) hx rfl; have g1 := cell_of (i := 1) hx rfl; go_simp; with_reducible rfl) hHeld ?_
    refine tI 5 (some 24) (bs 8 63) rfl (by intro w' hS'; have s0 := hS'; have z := rd_ad (Kd.C_below HR.out (HB2.out.trans ((bt_ HW.out hS').mono HB2.out.size))) HY.out; go_simp; with_reducible rfl) hHeld ?_
    refine one_ (i := 6) (N := some 25) (bs 8 127) rfl rfl (by kernel_rfl) (by decide) (fun K hK => ?_)
    refine goes_ Tryz.func101 (by kernel_rfl) rfl #[.agg #[.slice A' p.length c', .slice (some ⟨g, 0, none⟩) (p.length + 1) (p.length + 1)], .int .i64 ((bk p i : Nat) : Int), .int .i64 y] (by rfl) rfl rfl (by simp [Act.eval]) ?_
    have hA3 := Kd.R_reads' (Kd.R_below HA.out HD3.out)
    have hG3 := Kd.R_reads' (Kd.R_below HG.out HD3.out)
    have hst := step_any (p := p) (B := bkI p i) (n := y) (k := bk p i) (c2 := p.length + 1) (m := p.length + 1) HP.out (bkI_len p i) HL.out (by have := bk_lt hi1 hi; omega) (fun j h1 h2 => bkI_at (by have := bk_lt hi1 hi; omega) (by have := bk_lt hi1 hi; omega)) w3 hA3.2.2 hA3.2.1 hG3.2.2 (by rw [bkI_len]; exact Nat.le_refl _) (by rw [bkI_len])
    rw [HST.out] at hst
    refine hst.mono ?_
    clear hst hA3 hG3
    rintro e w4 ⟨rfl, hb⟩
    have HD4 := As.mk (bt_ HD3.out hb)
    clear hb
    refine ⟨_, rfl, ?_⟩
    refine hK.out _ _ HD4.out (fun hHeld => ?_)
    clear hK K
    refine nI ?_
    refine pI 7 (some 4) (bs 8 255) ?_
    refine done_ (by kernel_rfl) ?_
    have HW4 := As.mk (bt_ HW.out HD4.out)
    have hA4 := Kd.R_below HA.out HD4.out
    have hG4 := Kd.R_below HG.out HD4.out
    have hX4 := (HD4.out.block _ (blk_lt HX.out)).trans HX.out
    have hbg := own_ne hG4 hX4 (by decide)
    have q0 := cell_of (i := 0) hX4 rfl
    have q1 := cell_of (i := 1) hX4 rfl
    obtain ⟨y0, hy0⟩ : ∃ y0, (bkI p i)[i + 1]? = some y0 := ⟨_, List.getElem?_eq_getElem (by rw [bkI_len]; omega)⟩
    have qc := own_cell hG4 hy0
    have qf := own_froz hG4 (i + 1)
    obtain ⟨hP1, hP2⟩ := Kd.R_putg hG4 ((i : Int) + 1) ((bk p (i + 1) : Nat) : Int)
    rw [show ((i : Int) + 1).toNat = i + 1 by omega] at hP1 hP2
    rw [bkI_set] at hP1
    have HP1 := As.mk hP1
    have HP2 := As.mk (Kd.R_grown hA4 hP2 (fun k hk e => by injection e with e; exact hk e))
    have HP3 := As.mk ((Below.heap_setCell w4 ⟨g, i + 1, none⟩ (.int .i64 ((bk p (i + 1) : Nat) : Int)) b hbg).trans hX4)
    have HP4 := As.mk (HW4.out.setCell (p := ⟨g, i + 1, none⟩) HGB.out.1 (.int .i64 ((bk p (i + 1) : Nat) : Int)))
    clear f0 f1 hA4 hG4 hX4 hP1 hP2 hy0
    go_wp2
    go_roundg k1
    case measure => omega
    case rel => exact ⟨i + 1, by go_num, rfl, by omega, by omega, ⟨by have := HK.out; omega⟩, HP4, HP2, HP1, HP3⟩
   ·obtain rfl : i = p.length := by omega
    have hN := (HW.out.block _ (blk_lt HN.out)).trans HN.out
    have n0 := cell_of (i := 0) hN rfl
    have n1 := cell_of (i := 1) hN rfl
    have m0 := frozen_of hN 0
    have m1 := frozen_of hN 1
    have hG := HG.out
    rw [bkI_all] at hG
    have HG2 := As.mk (Rw.of (Kd.R_set (Kd.R_set hG hN (by decide) 0 (.slice A' p.length c')) (blk_set hN 0 _) (by decide) 1 (.slice (some ⟨g, 0, none⟩) (p.length + 1) (p.length + 1))))
    have HA2 := As.mk (Rw.of (Kd.R_set (Kd.R_set HA.out hN (by decide) 0 (.slice A' p.length c')) (blk_set hN 0 _) (by decide) 1 (.slice (some ⟨g, 0, none⟩) (p.length + 1) (p.length + 1))))
    have HW2 := As.mk ((((HB2.out.trans (HW.out.mono HB2.out.size)).setCell (p := ⟨w.heap.size, 0, none⟩) (Nat.le_refl _) (.slice A' p.length c')).setCell (p := ⟨w.heap.size, 1, none⟩) (Nat.le_refl _) (.slice (some ⟨g, 0, none⟩) (p.length + 1) (p.length + 1))))
    have k0 := cell_of (i := 0) (blk_set (blk_set hN 0 (.slice A' p.length c')) 1 (.slice (some ⟨g, 0, none⟩) (p.length + 1) (p.length + 1))) rfl
    have k1 := cell_of (i := 1) (blk_set (blk_set hN 0 (.slice A' p.length c')) 1 (.slice (some ⟨g, 0, none⟩) (p.length + 1) (p.length + 1))) rfl
    have HZ := As.mk (blk_set (blk_set hN 0 (.slice A' p.length c')) 1 (.slice (some ⟨g, 0, none⟩) (p.length + 1) (p.length + 1)))
    clear hG hN
    go_wp2
    (try simp only [Exit.inBlock, Exit.then])
    refine bodyPost_ret (results_cell_row (p := 2) (ty := 116) rfl _ _ w.heap.size 116 _ (0, 0) _ (by rfl) HZ.out Tryz.underlying116 rfl (by kernel_rfl)) rfl ?_
    exact ⟨A', c', g, rfl, HA2.out, HG2.out, HW2.out⟩
end Go.Proofs.YtkffhgiiejbnaaaGreat.Sk
