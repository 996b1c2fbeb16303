/- Which numbers stay, and how long the longest common list is: the program's answer; no condition but the lists' lengths. -/
import Derived.Test.YtphdbombgljamaaDiffN
namespace Go.Proofs.Ytphdbombgljamaa.Df
open Go.RowKit Go.Proofs.YtphdbombgljamaaW.PrintWords Go.Proofs.YtphdbombgljamaaW.PrintLast Go.Proofs.YtphdbombgljamaaW.PrintMore Go.Proofs.Ytphdbombgljamaa.Rf Go.Proofs.Ytphdbombgljamaa.Aid
set_option linter.unusedVariables false
set_option linter.unusedSimpArgs false
set_option maxHeartbeats 400000

theorem bools_C {W : World} {ob n : Nat} {X : Nat → Bool} (h : ∀ p, p < n → W.cell? ⟨ob, p, none⟩ = some (.bool (X p))) (hn : n ≤ 500) : Kd.C Kd.bool W (some ⟨ob, 0, none⟩) n (boolsOf n X) := by
  refine ⟨by simp [boolsOf], by omega, fun _ => ⟨_, rfl, fun j p hj => ?_⟩⟩
  unfold boolsOf at hj
  rw [List.getElem?_map] at hj
  by_cases hjl : j < n
  · rw [List.getElem?_range hjl] at hj
    simp only [Option.map_some, Option.some.injEq] at hj
    subst hj
    refine ⟨[.bool (X j)], rfl, rfl, fun i u hu => ?_⟩
    match i, hu with
    | 0, hu =>
      simp only [List.getElem?_cons_zero, Option.some.injEq] at hu
      subst hu
      rw [add0]
      show W.cell? ⟨ob, j * 1 + 0, none⟩ = _
      rw [Nat.mul_one]
      exact h j hjl
    | i + 1, hu => simp at hu
  · rw [List.getElem?_eq_none (by simp; omega)] at hj; cases hj

theorem field2 (v0 v1 v2 : Value) (W : World) : (Instr.field 78 (.agg #[v0, v1, v2]) 2).run Try.prog W = .ok v2 W := by
  simp [Instr.field, run_underlying Try.underlying78, part, asAgg, go_sem]
set_option maxRecDepth 100000 in
theorem common_any {A : Option Addr} {c : Nat} {a : List Int} {B : Option Addr} {d : Nat} {b : List Int} {w : World} (hr0 : Kd.C (Kd.int .i64) w A a.length a) (hc0 : a.length ≤ c) (hr1 : Kd.C (Kd.int .i64) w B b.length b) (hc1 : b.length ≤ d) (ha : a.length ≤ 500) (hb : b.length ≤ 500) :
    Calls Try.prog 23 #[.slice A a.length c, .slice B b.length d] w fun e w' => e = .returned (.int .i64 (L a b 0 0 : Int)) ∧ Below w.heap.size w w' := by
  have HR0 := As.mk hr0
  have HR1 := As.mk hr1
  have HC0 := As.mk hc0
  have HC1 := As.mk hc1
  clear hr0 hr1 hc0 hc1
  go_enter Try.func23, Try.ntmps23
  go_wp2_with fail
  refine (few_any A c a B d b _ HR0.out HC0.out HR1.out HC1.out).mono ?_
  rw [decide_eq_true ⟨ha, hb⟩]
  rintro e w1 ⟨rfl, ⟨n1, rfl⟩⟩
  have HB1 := As.mk (pw_below_drewN (Below.refl w.heap.size w) n1)
  generalize w.drewN n1 = w1 at HB1 ⊢
  go_wp2_with fail
  refine (of_any A c a B d b _ (Kd.C_below HR0.out HB1.out) (Kd.C_below HR1.out HB1.out) ha hb).mono ?_
  rintro e w2 ⟨rfl, hT, hb2⟩
  have HB2 := As.mk (bt_ HB1.out hb2)
  have h00 := hT.row 0 (by omega)
  have v00 := hT.val 0 0 (by omega) (by omega)
  have i1 : (0 : Int) < (a.length : Int) + 1 := by omega
  have i2 : (0 : Int) < (b.length : Int) + 1 := by omega
  rw [Nat.add_zero] at h00 v00
  have hF := field2
  rw [Nat.add_zero] at h00
  clear hT hb2
  go_wp2
  go_ret
  exact ⟨rfl, HB2.out⟩
theorem common_no {A : Option Addr} {c : Nat} {a : List Int} {B : Option Addr} {d : Nat} {b : List Int} {w : World} (hr0 : Kd.C (Kd.int .i64) w A a.length a) (hc0 : a.length ≤ c) (hr1 : Kd.C (Kd.int .i64) w B b.length b) (hc1 : b.length ≤ d) (h : ¬ (a.length ≤ 500 ∧ b.length ≤ 500)) :
    Calls Try.prog 23 #[.slice A a.length c, .slice B b.length d] w fun e w' => e = .returned (.int .i64 0) ∧ Below w.heap.size w w' := by
  have HR0 := As.mk hr0
  have HR1 := As.mk hr1
  have HC0 := As.mk hc0
  have HC1 := As.mk hc1
  have HH := As.mk h
  clear hr0 hr1 hc0 hc1 h
  go_enter Try.func23, Try.ntmps23
  go_wp2_with fail
  refine (few_any A c a B d b _ HR0.out HC0.out HR1.out HC1.out).mono ?_
  rw [decide_eq_false HH.out]
  rintro e w1 ⟨rfl, ⟨n1, rfl⟩⟩
  go_wp2
  go_ret
  exact ⟨rfl, pw_below_drewN (Below.refl _ _) _⟩

set_option maxRecDepth 100000 in
theorem stays_no {A : Option Addr} {c : Nat} {a : List Int} {B : Option Addr} {d : Nat} {b : List Int} {w : World} (hr0 : Kd.C (Kd.int .i64) w A a.length a) (hc0 : a.length ≤ c) (hr1 : Kd.C (Kd.int .i64) w B b.length b) (hc1 : b.length ≤ d) (h : ¬ (a.length ≤ 500 ∧ b.length ≤ 500)) :
    Calls Try.prog 22 #[.slice A a.length c, .slice B b.length d] w fun e w' => e = .returned (.slice none 0 0) ∧ Below w.heap.size w w' := by
  have HR0 := As.mk hr0
  have HR1 := As.mk hr1
  have HC0 := As.mk hc0
  have HC1 := As.mk hc1
  have HH := As.mk h
  clear hr0 hr1 hc0 hc1 h
  go_enter Try.func22, Try.ntmps22
  go_wp2_with fail
  refine (few_any A c a B d b _ HR0.out HC0.out HR1.out HC1.out).mono ?_
  rw [decide_eq_false HH.out]
  rintro e w1 ⟨rfl, ⟨n1, rfl⟩⟩
  go_wp2
  go_ret
  exact ⟨rfl, pw_below_drewN (Below.refl _ _) _⟩

/-- The answer's row (block ob), and where the walk stands (block sp). -/
structure SW (W : World) (ob sp n i j : Nat) (X : Nat → Bool) : Prop where
  st : W.heap[sp]? = some (.cells #[.int .i64 i, .int .i64 j] 81 (0, 0))
  out : ∃ cs, W.heap[ob]? = some (.cells cs 4 (0, 0))
  val : ∀ p, p < n → W.cell? ⟨ob, p, none⟩ = some (.bool (X p))
theorem SW.below {W W' : World} {ob sp n i j : Nat} {X : Nat → Bool} (h : SW W ob sp n i j X) (hb : Below W.heap.size W W') : SW W' ob sp n i j X := by
  obtain ⟨cs, hcs⟩ := h.out
  exact ⟨(hb.block _ (Array.getElem?_eq_some_iff.1 h.st).1).trans h.st, ⟨cs, (hb.block _ (Array.getElem?_eq_some_iff.1 hcs).1).trans hcs⟩, fun p hp => pw_cell_below hb (h.val p hp)⟩
theorem sw0 (w : World) (n : Nat) : SW ((w.alloc (.cells (madeCells #[.bool false] n) 4)).alloc (.cells #[.int .i64 0, .int .i64 0] 81)) w.heap.size (w.heap.size + 1) n 0 0 (fun _ => false) := by
  have h1 : ((w.alloc (.cells (madeCells #[.bool false] n) 4)).alloc (.cells #[.int .i64 0, .int .i64 0] 81)).heap[w.heap.size]? = some (.cells (madeCells #[.bool false] n) 4 (0, 0)) :=
    ((below_alloc (Below.refl _ _) _).block w.heap.size (by rw [size_alloc]; omega)).trans (Go.MapKept.heap_alloc _ _).1
  refine ⟨?_, ⟨_, h1⟩, fun p hp => ?_⟩
  · have := (Go.MapKept.heap_alloc (w.alloc (.cells (madeCells #[.bool false] n) 4)) (.cells #[.int .i64 0, .int .i64 0] 81)).1
    rw [size_alloc] at this
    exact this
  · simp only [World.cell?, h1]
    exact made_get _ _ _ hp

theorem sw_mk {V : World} {ob n i1 j1 : Nat} {X : Nat → Bool} (hout : ∃ cs, V.heap[ob]? = some (.cells cs 4 (0, 0))) (hval : ∀ p, p < n → V.cell? ⟨ob, p, none⟩ = some (.bool (X p))) (o : Obj) :
    SW ((V.alloc o).alloc (.cells #[.int .i64 i1, .int .i64 j1] 81)) ob (V.heap.size + 1) n i1 j1 X := by
  have hb : Below V.heap.size V ((V.alloc o).alloc (.cells #[.int .i64 i1, .int .i64 j1] 81)) := below_alloc (below_alloc (Below.refl _ _) _) _
  obtain ⟨cs, hcs⟩ := hout
  refine ⟨?_, ⟨cs, (hb.block _ (Array.getElem?_eq_some_iff.1 hcs).1).trans hcs⟩, fun p hp => pw_cell_below hb (hval p hp)⟩
  have := (Go.MapKept.heap_alloc (V.alloc o) (.cells #[.int .i64 i1, .int .i64 j1] 81)).1
  rw [size_alloc] at this
  exact this
theorem go_more (a b : List Int) : ∀ (f i j : Nat), i ≤ a.length → j ≤ b.length → (a.length - i) + (b.length - j) ≤ f → go a b (f + 1) i j = go a b f i j
  | 0, i, j, hi, hj, hf => by
    obtain rfl : i = a.length := by omega
    obtain rfl : j = b.length := by omega
    rw [go_end, go_end]
  | f + 1, i, j, hi, hj, hf => by
    by_cases he : i = a.length ∧ j = b.length
    · rw [he.1, he.2, go_end, go_end]
    · rcases step_cases a b hi hj he with ⟨h1, h2, e, hs⟩ | ⟨h1, hc, hs⟩ | ⟨h2, hc, hs⟩
      · rw [go_stay he hs, go_stay he hs, go_more a b f _ _ (by omega) (by omega) (by omega)]
      · rw [go_pass he hs, go_pass he hs, go_more a b f _ _ (by omega) (by omega) (by omega)]
      · rw [go_pass he hs, go_pass he hs, go_more a b f _ _ (by omega) (by omega) (by omega)]
/-- The walk goes on: what stays from here. -/
theorem go_here (a b : List Int) {i j : Nat} (hi : i ≤ a.length) (hj : j ≤ b.length) (he : ¬ (i = a.length ∧ j = b.length)) {i1 j1 : Nat} {st : Bool} (hs : stepP a b i j = (i1, j1, st)) :
    i1 ≤ a.length ∧ j1 ≤ b.length ∧ (a.length - i1) + (b.length - j1) < (a.length - i) + (b.length - j) ∧ (st = true → i1 = i + 1 ∧ j1 = j + 1 ∧ i < a.length ∧ j < b.length) ∧
    go a b ((a.length - i) + (b.length - j)) i j = if st = true then (i, j) :: go a b ((a.length - i1) + (b.length - j1)) i1 j1 else go a b ((a.length - i1) + (b.length - j1)) i1 j1 := by
  rcases step_cases a b hi hj he with ⟨h1, h2, e, h⟩ | ⟨h1, hc, h⟩ | ⟨h2, hc, h⟩
  · rw [hs] at h
    injection h with e1 e2; injection e2 with e2 e3
    subst e1; subst e2; subst e3
    refine ⟨by omega, by omega, by omega, fun _ => ⟨rfl, rfl, h1, h2⟩, ?_⟩
    rw [if_pos rfl, show (a.length - i) + (b.length - j) = (a.length - (i + 1)) + (b.length - (j + 1)) + 1 + 1 from by omega, go_stay he hs, go_more a b _ _ _ (by omega) (by omega) (by omega)]
  · rw [hs] at h
    injection h with e1 e2; injection e2 with e2 e3
    replace e1 := e1.symm; replace e2 := e2.symm
    subst e1; subst e2; subst e3
    refine ⟨by omega, by omega, by omega, (fun h => by cases h), ?_⟩
    rw [if_neg (by simp), show (a.length - i) + (b.length - j) = (a.length - (i + 1)) + (b.length - j) + 1 from by omega, go_pass he hs]
  · rw [hs] at h
    injection h with e1 e2; injection e2 with e2 e3
    replace e1 := e1.symm; replace e2 := e2.symm
    subst e1; subst e2; subst e3
    refine ⟨by omega, by omega, by omega, (fun h => by cases h), ?_⟩
    rw [if_neg (by simp), show (a.length - i) + (b.length - j) = (a.length - i) + (b.length - (j + 1)) + 1 from by omega, go_pass he hs]

set_option maxRecDepth 100000 in
set_option maxHeartbeats 1000000 in
theorem stays_any {A : Option Addr} {c : Nat} {a : List Int} {B : Option Addr} {d : Nat} {b : List Int} {w : World} (hr0 : Kd.C (Kd.int .i64) w A a.length a) (hc0 : a.length ≤ c) (hr1 : Kd.C (Kd.int .i64) w B b.length b) (hc1 : b.length ≤ d) (ha : a.length ≤ 500) (hb : b.length ≤ 500) :
    Calls Try.prog 22 #[.slice A a.length c, .slice B b.length d] w fun e w' => ∃ A1 c1, e = .returned (.slice A1 a.length c1) ∧ Kd.C Kd.bool w' A1 a.length (staysX a b) ∧ Below w.heap.size w w' := by
  have HR0 := As.mk hr0
  have HR1 := As.mk hr1
  have HC0 := As.mk hc0
  have HC1 := As.mk hc1
  clear hr0 hr1 hc0 hc1
  have hMb : ∀ W : World, (Instr.makeSlice 37 (.int .i64 (a.length : Int)) (.int .i64 (a.length : Int))).run Try.prog W = .ok (.slice (some ⟨W.heap.size, 0, none⟩) a.length a.length) (W.alloc (.cells (madeCells #[.bool false] a.length) 4)) :=
    print_make_of 37 4 (.bool false) 1 Try.underlying37 (by kernel_rfl) rfl (by omega) a.length (by omega)
  go_enter Try.func22, Try.ntmps22
  go_wp2_with fail
  refine (few_any A c a B d b _ HR0.out HC0.out HR1.out HC1.out).mono ?_
  rw [decide_eq_true ⟨ha, hb⟩]
  rintro e w1 ⟨rfl, ⟨n1, rfl⟩⟩
  have HB1 := As.mk (pw_below_drewN (Below.refl w.heap.size w) n1)
  generalize w.drewN n1 = w1 at HB1 ⊢
  go_wp2_with fail
  refine (of_any A c a B d b _ (Kd.C_below HR0.out HB1.out) (Kd.C_below HR1.out HB1.out) ha hb).mono ?_
  rintro e w2 ⟨rfl, hT, hb2⟩
  have HB2 := As.mk (bt_ HB1.out hb2)
  have HT2 := As.mk (tab_C ha hb hT)
  clear hT hb2
  generalize w1.heap.size + 1 = g at HT2 ⊢
  go_wp2_with fail
  obtain ⟨w3, h3⟩ : ∃ w3, w3 = w2.alloc (.cells #[.slice A a.length c, .slice B b.length d, .slice (some ⟨g, 0, none⟩) (a.length + 1) (a.length + 1)] 78) := ⟨_, rfl⟩
  have hs3 : w3.heap.size = w2.heap.size + 1 := by rw [h3]; exact size_alloc _ _
  have HT3 := As.mk (show TabC w3 g a b from by rw [h3]; exact Kd.C_below HT2.out (below_alloc (Below.refl _ _) _))
  have HB3 := As.mk (show Below w.heap.size w w3 from by rw [h3]; exact below_alloc HB2.out _)
  have hh3 : w3.heap[w2.heap.size]? = some (.cells #[.slice A a.length c, .slice B b.length d, .slice (some ⟨g, 0, none⟩) (a.length + 1) (a.length + 1)] 78 (0, 0)) := by rw [h3]; exact (Go.MapKept.heap_alloc _ _).1
  have t0 : w3.cell? ⟨w2.heap.size, 0, none⟩ = some (.slice A a.length c) := by simp only [World.cell?, hh3]; rfl
  have t1 : w3.cell? ⟨w2.heap.size, 1, none⟩ = some (.slice B b.length d) := by simp only [World.cell?, hh3]; rfl
  have t2 : w3.cell? ⟨w2.heap.size, 2, none⟩ = some (.slice (some ⟨g, 0, none⟩) (a.length + 1) (a.length + 1)) := by simp only [World.cell?, hh3]; rfl
  rw [← h3]
  clear hh3 h3 HT2 HB2 HB1
  have HT := As.mk (And.intro t0 (And.intro t1 t2))
  clear t0 t1 t2
  rw [← hs3]
  generalize w2.heap.size = tb at HT ⊢
  clear hs3
  have HS0 := As.mk (sw0 w3 a.length)
  have HBB := As.mk (below_alloc (below_alloc (Below.refl w3.heap.size w3) (.cells (madeCells #[.bool false] a.length) 4)) (.cells #[.int .i64 0, .int .i64 0] 81))
  generalize (w3.alloc (.cells (madeCells #[.bool false] a.length) 4)).alloc (.cells #[.int .i64 0, .int .i64 0] 81) = W0 at HS0 HBB ⊢
  clear hMb
  go_loopg [7] (a.length + b.length) (fun k v w' => ∃ (i j sp : Nat) (X : Nat → Bool) (W : World), v = .pointer (some ⟨sp, 0, none⟩) ∧ i ≤ a.length ∧ j ≤ b.length ∧ As ((a.length - i) + (b.length - j) ≤ k) ∧ As (W = w') ∧ w3.heap.size < sp ∧ As (SW w' w3.heap.size sp a.length i j X) ∧ As (∀ p, (X p || hasI (go a b ((a.length - i) + (b.length - j)) i j) p) = hasI (pairs a b) p) ∧ As (Below w3.heap.size w3 w'))
  case atStart => exact ⟨0, 0, w3.heap.size + 1, fun _ => false, W0, rfl, Nat.zero_le _, Nat.zero_le _, ⟨by omega⟩, ⟨rfl⟩, by omega, HS0, ⟨fun p => by simp [pairs]⟩, HBB⟩
  case round =>
    clear HS0 HBB
    obtain ⟨i, j, sp, X, W, rfl, hi, hj, HK, HW, hsp, HS, HX, HB⟩ := hrel
    have hW := HW.out
    subst hW
    clear HW
    have t0 := pw_cell_below HB.out HT.out.1
    have t1 := pw_cell_below HB.out HT.out.2.1
    have t2 := pw_cell_below HB.out HT.out.2.2
    have hst := HS.out.st
    have s0 : W.cell? ⟨sp, 0, none⟩ = some (.int .i64 i) := by simp only [World.cell?, hst]; rfl
    have s1 : W.cell? ⟨sp, 1, none⟩ = some (.int .i64 j) := by simp only [World.cell?, hst]; rfl
    clear hst
    by_cases he : i = a.length ∧ j = b.length
    · obtain ⟨rfl, rfl⟩ := he
      go_wp2_with fail
      refine (end_any (Kd.C_below HR0.out (HB3.out.trans (HB.out.mono (by have := HB3.out.size; omega)))) HC0.out (Kd.C_below HR1.out (HB3.out.trans (HB.out.mono (by have := HB3.out.size; omega)))) HC1.out (Kd.C_below HT3.out HB.out) a.length b.length).mono ?_
      rw [decide_eq_true ⟨rfl, rfl⟩]
      rintro e w5 ⟨rfl, hb5⟩
      have HB5 := As.mk hb5
      clear hb5
      go_wp2
      go_ret
      refine ⟨_, _, rfl, ?_, (HB3.out.trans (HB.out.mono (by have := HB3.out.size; omega))).trans (HB5.out.mono (by have := HB3.out.size; have := HB.out.size; omega))⟩
      unfold staysX
      have : hasI (pairs a b) = X := by
        funext p
        rw [← HX.out p, go_end]
        simp [hasI]
      rw [this]
      exact bools_C (fun p hp => pw_cell_below HB5.out (HS.out.val p hp)) ha
    · obtain ⟨k1, rfl⟩ : ∃ k1, gk = k1 + 1 := ⟨gk - 1, by have := HK.out; omega⟩
      have HE := As.mk he
      clear he
      go_wp2_with fail
      refine (end_any (Kd.C_below HR0.out (HB3.out.trans (HB.out.mono (by have := HB3.out.size; omega)))) HC0.out (Kd.C_below HR1.out (HB3.out.trans (HB.out.mono (by have := HB3.out.size; omega)))) HC1.out (Kd.C_below HT3.out HB.out) i j).mono ?_
      rw [decide_eq_false HE.out]
      rintro e w5 ⟨rfl, hb5⟩
      have HB5 := As.mk (HB.out.trans (hb5.mono HB.out.size))
      have HS5 := As.mk (HS.out.below hb5)
      replace t0 := pw_cell_below hb5 t0
      replace t1 := pw_cell_below hb5 t1
      replace t2 := pw_cell_below hb5 t2
      replace s0 := pw_cell_below hb5 s0
      replace s1 := pw_cell_below hb5 s1
      clear hb5 HB HS
      go_wp2_with fail
      refine (next_any (Kd.C_below HR0.out (HB3.out.trans (HB5.out.mono (by have := HB3.out.size; omega)))) HC0.out (Kd.C_below HR1.out (HB3.out.trans (HB5.out.mono (by have := HB3.out.size; omega)))) HC1.out (Kd.C_below HT3.out HB5.out) ha hb hi hj HE.out).mono ?_
      obtain ⟨⟨i1, j1, st⟩, hstep⟩ : ∃ x, stepP a b i j = x := ⟨_, rfl⟩
      have hsc := go_here a b hi hj HE.out hstep
      rw [hstep]
      have HST := As.mk hsc
      clear hstep hsc
      rintro e w6 ⟨rfl, hb6⟩
      have HB6 := As.mk (HB5.out.trans (hb6.mono HB5.out.size))
      have HS6 := As.mk (HS5.out.below hb6)
      clear t0 t1 t2 s0 s1 hb6 HB5 HS5
      have hst := HS6.out.st
      have s0 : w6.cell? ⟨sp, 0, none⟩ = some (.int .i64 i) := by simp only [World.cell?, hst]; rfl
      have s1 : w6.cell? ⟨sp, 1, none⟩ = some (.int .i64 j) := by simp only [World.cell?, hst]; rfl
      have z0 := Hp.frozen_of hst 0
      have z1 := Hp.frozen_of hst 1
      have hlt := World.block_lt_of_cell? w6 _ s0
      have hlt : sp < w6.heap.size := hlt
      have hlo : w3.heap.size < w6.heap.size := by omega
      have hne1 : w3.heap.size ≠ sp := by omega
      have hne2 : sp ≠ w3.heap.size := by omega
      have hne3 : w6.heap.size ≠ sp := by omega
      have hne4 : w6.heap.size ≠ w3.heap.size := by omega
      have hne5 : sp ≠ w6.heap.size := by omega
      have hne6 : w3.heap.size ≠ w6.heap.size := by omega
      clear hst
      cases st with
      | true =>
        obtain ⟨q1, q2, q3, q4, q5⟩ := HST.out
        obtain ⟨rfl, rfl, h1, h2⟩ := q4 rfl
        rw [if_pos rfl] at q5
        have HG := As.mk (And.intro q3 q5)
        clear q1 q2 q3 q4 q5 HST
        have h1i : (i : Int) < a.length := by omega
        have v0 := HS6.out.val i h1
        obtain ⟨cso, hcso⟩ := HS6.out.out
        have zo := Hp.frozen_of hcso i
        clear hcso
        go_wp2
        go_roundg k1
        case measure => omega
        case rel =>
          refine ⟨i + 1, j + 1, w6.heap.size + 1, fun q => if q = i then true else X q, _, rfl, by omega, by omega, ⟨by have := HK.out; omega⟩, ⟨rfl⟩, by omega, ⟨?_⟩, ⟨fun p => ?_⟩, ⟨?_⟩⟩
          · have hm := sw_mk (V := ((w6.setCell ⟨w3.heap.size, i, none⟩ (.bool true)).setCell ⟨sp, 0, none⟩ (.int .i64 ((i : Int) + 1))).setCell ⟨sp, 1, none⟩ (.int .i64 ((j : Int) + 1))) (ob := w3.heap.size) (n := a.length) (i1 := i + 1) (j1 := j + 1) (X := fun q => if q = i then true else X q) (by
              obtain ⟨cs, hcs⟩ := HS6.out.out
              obtain ⟨cs1, h1⟩ := blkset hcs ⟨w3.heap.size, i, none⟩ (.bool true)
              obtain ⟨cs2, h2⟩ := blkset h1 ⟨sp, 0, none⟩ (.int .i64 ((i : Int) + 1))
              exact blkset h2 _ _) (fun p hp => by
              rw [World.cell?_setCell_far _ _ _ _ hne2, World.cell?_setCell_far _ _ _ _ hne2]
              by_cases e : p = i
              · subst e; rw [if_pos rfl]; exact Hp.set_eq (HS6.out.val p hp)
              · rw [if_neg e, Hp.set_ne _ _ _ _ _ e]; exact HS6.out.val p hp) (.cells #[.int .i64 ((i : Int) + 1), .int .i64 ((j : Int) + 1)] 81)
            rw [size_set, size_set, size_set] at hm
            simpa only [Int.natCast_add, Int.natCast_one] using hm
          · rw [← HX.out p, HG.out.2]
            by_cases e : p = i
            · simp [e, hasI]
            · have : (i == p) = false := by simp; omega
              simp [e, hasI, this]
          · exact below_alloc (below_alloc (((HB6.out.setCell (p := ⟨w3.heap.size, i, none⟩) (Nat.le_refl _) _).setCell (p := ⟨sp, 0, none⟩) (by show w3.heap.size ≤ sp; omega) _).setCell (p := ⟨sp, 1, none⟩) (by show w3.heap.size ≤ sp; omega) _) _) _
      | false =>
        obtain ⟨q1, q2, q3, q4, q5⟩ := HST.out
        rw [if_neg (by simp)] at q5
        have HG := As.mk (And.intro q3 q5)
        clear q3 q4 q5 HST
        go_wp2
        go_roundg k1
        case measure => omega
        case rel =>
          refine ⟨i1, j1, w6.heap.size + 1, X, _, rfl, q1, q2, ⟨by have := HK.out; have := HG.out.1; omega⟩, ⟨rfl⟩, by omega, ⟨?_⟩, ⟨fun p => ?_⟩, ⟨?_⟩⟩
          · have hm := sw_mk (V := (w6.setCell ⟨sp, 0, none⟩ (.int .i64 i1)).setCell ⟨sp, 1, none⟩ (.int .i64 j1)) (ob := w3.heap.size) (n := a.length) (i1 := i1) (j1 := j1) (X := X) (by
              obtain ⟨cs, hcs⟩ := HS6.out.out
              obtain ⟨cs2, h2⟩ := blkset hcs ⟨sp, 0, none⟩ (.int .i64 i1)
              exact blkset h2 _ _) (fun p hp => by
              rw [World.cell?_setCell_far _ _ _ _ hne2, World.cell?_setCell_far _ _ _ _ hne2]
              exact HS6.out.val p hp) (.cells #[.int .i64 i1, .int .i64 j1] 81)
            rw [size_set, size_set] at hm
            exact hm
          · rw [← HX.out p, HG.out.2]
          · exact below_alloc (below_alloc ((HB6.out.setCell (p := ⟨sp, 0, none⟩) (by show w3.heap.size ≤ sp; omega) _).setCell (p := ⟨sp, 1, none⟩) (by show w3.heap.size ≤ sp; omega) _) _) _
end Go.Proofs.Ytphdbombgljamaa.Df
