/- Turn: the walk; the edits being such as make one list of another one. -/
import Derived.Test.YtphdbombgljamaaDiffM
namespace Go.Proofs.Ytphdbombgljamaa.Df
open Go.RowKit Go.Proofs.YtphdbombgljamaaW.PrintWords Go.Proofs.YtphdbombgljamaaW.PrintLast Go.Proofs.YtphdbombgljamaaW.PrintMore Go.Proofs.Ytphdbombgljamaa.Rf Go.Proofs.Ytphdbombgljamaa.Aid
set_option linter.unusedVariables false
set_option linter.unusedSimpArgs false
set_option maxHeartbeats 400000

/-- Turn's loop: what is told, what is left. -/
structure TW (w W : World) (a b : List Int) (es : List S43) (j : Nat) (n : Int) (v : Value) : Prop where
  below : Below w.heap.size w W
  out : ∃ (xs : List S43) (i k s : Nat), Kd.R k43 43 W w.heap.size (fun _ => True) v xs ∧ xs.length = j ∧ n = (k : Int) - i ∧ Makes a b i k (es.drop j) s ∧ xs ++ turnG a n (es.drop j) = turnG a 0 es
theorem w64q {x y : Int} (h : x = y) (h0 : -1000000 ≤ y) (h1 : y ≤ 1000000) : wrap64 x = y := by subst h; exact w64d (by omega) (by omega)
theorem turn_step {a b : List Int} {i k p t q r n2 : Nat} {N : Int} (hN : N = (k : Int) - i) (h1 : i ≤ p) (h2 : p ≤ t) (h3 : t ≤ a.length) (h4 : k ≤ q) (h5 : q ≤ r) (h6 : r ≤ b.length) (hl : p - i = q - k) (hn : n2 = r - q) (ha : a.length ≤ 100000) (hb : b.length ≤ 100000) :
    wrap64 ((p : Int) + N) = (q : Int) ∧ wrap64 ((q : Int) + (n2 : Int)) = (r : Int) ∧ wrap64 ((t : Int) - (p : Int)) = (t : Int) - p ∧ wrap64 ((n2 : Int) - ((t : Int) - (p : Int))) = (n2 : Int) - ((t : Int) - p) ∧ wrap64 (N + ((n2 : Int) - ((t : Int) - (p : Int)))) = (r : Int) - t :=
  ⟨w64q (by omega) (by omega) (by omega), w64q (by omega) (by omega) (by omega), w64q rfl (by omega) (by omega), w64q rfl (by omega) (by omega), w64q (by omega) (by omega) (by omega)⟩
theorem turn_cons {a : List Int} {xs l : List S43} {ed : S43} {i k p t q r : Nat} {N : Int} (e0 : ed.f0 = (p : Int)) (e1 : ed.f1 = (t : Int)) (h8 : ed.f2.length = r - q) (hN : N = (k : Int) - i) (h1 : i ≤ p) (h4 : k ≤ q) (h5 : q ≤ r) (hl : p - i = q - k) :
    xs ++ turnG a N (ed :: l) = (xs ++ [⟨q, r, cutB a p t⟩]) ++ turnG a ((r : Int) - t) l := by
  have f1 : (p : Int) + N = q := by omega
  have f2 : (q : Int) + ((r - q : Nat) : Int) = r := by omega
  have f3 : N + (((r - q : Nat) : Int) - ((t : Int) - p)) = (r : Int) - t := by omega
  have hg : turnG a N (ed :: l) = ⟨ed.f0 + N, ed.f0 + N + ed.f2.length, cutB a ed.f0.toNat ed.f1.toNat⟩ :: turnG a (N + (ed.f2.length - (ed.f1 - ed.f0))) l := rfl
  rw [hg, e0, e1, h8, f1, f2, f3, Int.toNat_natCast, Int.toNat_natCast, List.append_assoc]
  rfl
set_option maxRecDepth 100000 in
set_option maxHeartbeats 1000000 in
theorem turn_any {A : Option Addr} {c : Nat} {a b : List Int} {B : Option Addr} {d : Nat} {es : List S43} {s0 : Nat} {w : World} (hr0 : Kd.C (Kd.int .i64) w A a.length a) (hc0 : a.length ≤ c) (hr1 : Kd.C k43 w B es.length es) (hc1 : es.length ≤ d) (ha : a.length ≤ 100000) (hb : b.length ≤ 100000) (hn : es.length ≤ 2000) (hm : Makes a b 0 0 es s0) :
    Calls Try.prog 33 #[.slice A a.length c, .slice B es.length d] w fun e w' => ∃ v, e = .returned (.tuple #[v, .int .i64 0]) ∧ Kd.R k43 43 w' w.heap.size (fun _ => True) v (turnG a 0 es) ∧ Below w.heap.size w w' := by
  have HR0 := As.mk hr0
  have HR1 := As.mk hr1
  have HC0 := As.mk hc0
  have HC1 := As.mk hc1
  have HM := As.mk hm
  clear hr0 hr1 hc0 hc1 hm
  go_enter Try.func33, Try.ntmps33
  go_wp2_with fail
  refine (diff_right.calls (es.length + 1) (a.length : Int) B d es true _ HR1.out HC1.out (right_some a b es hn HM.out _ (Nat.le_refl _))).mono ?_
  rintro e w1 ⟨rfl, hb1⟩
  have HB1 := As.mk hb1
  clear hb1
  go_wp2_with fail
  have HT : As (TW w w1 a b es 0 0 (.slice none 0 0)) := ⟨⟨HB1.out, [], 0, 0, s0, Kd.R_nil _ _ _ _ _, rfl, rfl, HM.out, rfl⟩⟩
  go_loopg [6, 7, 17] es.length (fun g v n j w' => ∃ (J : Nat) (N : Int) (W : World), n = .int .i64 N ∧ j = .int .i64 J ∧ J ≤ es.length ∧ As (es.length - J ≤ g) ∧ As (W = w') ∧ As (TW w w' a b es J N v))
  case atStart => exact ⟨0, 0, w1, rfl, rfl, by omega, ⟨by omega⟩, ⟨rfl⟩, HT⟩
  case round =>
    obtain ⟨J, N, W, rfl, rfl, hJ, HG, HW, HT2⟩ := hrel
    have hW := HW.out
    subst hW
    clear HW HT
    by_cases hlt : J < es.length
    · obtain ⟨g1, rfl⟩ : ∃ g1, gk = g1 + 1 := ⟨gk - 1, by have := HG.out; omega⟩
      have hli : (J : Int) < (es.length : Int) := by omega
      obtain ⟨xs, i, k, s, hxr, hxl, hN, hmk, hxt⟩ := HT2.out.out
      rw [List.drop_eq_getElem_cons hlt] at hmk hxt
      have hrd : rd_T43 es (J : Int) = es[J] := by unfold rd_T43; rw [Int.toNat_natCast, List.getD_eq_getElem?_getD, List.getElem?_eq_getElem hlt]; rfl
      obtain ⟨ad3, A6, c6, rfl, y0, y1, y2, hc6, hC6⟩ := at_T43 (Kd.C_below HR1.out HT2.out.below) (J : Int) (by omega) (by omega)
      rw [hrd] at y0 y1 y2 hc6 hC6
      generalize es[J] = ed at hmk hxt y0 y1 y2 hc6 hC6
      clear hrd
      obtain ⟨p, t, q, r, s', e0, e1, h1, h2, h3, h4, h5, h6, h7, h8, hm', h9⟩ := hmk
      have hl := congrArg List.length h7
      rw [cutB_len (by omega), cutB_len (by omega)] at hl
      have h8l : ed.f2.length = r - q := by rw [h8, cutB_len (by omega)]
      obtain ⟨n2, hn2⟩ : ∃ n2, n2 = r - q := ⟨_, rfl⟩
      rw [e0, Int.toNat_natCast] at y0
      rw [e1, Int.toNat_natCast] at y1
      rw [h8l, ← hn2, Int.toNat_natCast] at y2
      rw [turn_cons e0 e1 h8l hN h1 h4 h5 hl] at hxt
      obtain ⟨B', hcut, hcutC⟩ := cut_C (Kd.C_below HR0.out HT2.out.below) HC0.out h2 h3
      have hlen : (cutB a p t).length = t - p := cutB_len h3
      have HW := As.mk (turn_step hN h1 h2 h3 h4 h5 h6 hl hn2 ha hb)
      have HX := As.mk (And.intro hxr (And.intro hxl (And.intro hm' hxt)))
      have HL := As.mk hlen
      have HCC := As.mk hcutC
      have HQ := As.mk (And.intro hl (And.intro hn2 h2))
      have g1' : (0 : Int) ≤ (p : Int) := by omega
      have g2' : (p : Int) ≤ (t : Int) := by omega
      have g3' : t ≤ a.length := h3
      have g4' : r ≤ b.length := h6
      have g5' : i ≤ a.length := by omega
      have g6' : k ≤ b.length := by omega
      have HH6 := As.mk (And.intro h1 (And.intro h3 (And.intro h4 (And.intro h5 h6))))
      clear h1 h2 h3 h4 h5 h6
      clear hxr hxl hm' hxt hlen hcutC hl hn2 h7 h8 h9 e0 e1 h8l hc6 hC6 hN
      go_wp2
      have hBx := below_alloc (Below.refl W.heap.size W) (.cells #[.int .i64 p, .int .i64 t, .slice A6 n2 c6] 43)
      have hh := (Go.MapKept.heap_alloc W (.cells #[.int .i64 p, .int .i64 t, .slice A6 n2 c6] 43)).1
      have z0 : (W.alloc (.cells #[.int .i64 p, .int .i64 t, .slice A6 n2 c6] 43)).cell? ⟨W.heap.size, 0, none⟩ = some (.int .i64 p) := by simp only [World.cell?, hh]; rfl
      have z1 : (W.alloc (.cells #[.int .i64 p, .int .i64 t, .slice A6 n2 c6] 43)).cell? ⟨W.heap.size, 1, none⟩ = some (.int .i64 t) := by simp only [World.cell?, hh]; rfl
      have z2 : (W.alloc (.cells #[.int .i64 p, .int .i64 t, .slice A6 n2 c6] 43)).cell? ⟨W.heap.size, 2, none⟩ = some (.slice A6 n2 c6) := by simp only [World.cell?, hh]; rfl
      have HBx := As.mk hBx
      have HE := As.mk hh
      clear hBx hh y0 y1 y2
      generalize W.alloc (.cells #[.int .i64 p, .int .i64 t, .slice A6 n2 c6] 43) = W1 at HBx HE z0 z1 z2 ⊢
      obtain ⟨w1e, w2e, w3e, w4e, w5e⟩ := HW.out
      refine start_ (n := 24) (S := fun w' => w'.cell? ⟨W.heap.size, 0, none⟩ = some (.int .i64 p) ∧ w'.cell? ⟨W.heap.size, 1, none⟩ = some (.int .i64 t) ∧ w'.cell? ⟨W.heap.size, 2, none⟩ = some (.slice A6 n2 c6)) (ds := []) #[false, false, false, false, false, false, false, false, false, false, false, false, false, false, false, false, false, false, false, false, false, false, false, false] (by kernel_rfl) rfl rfl (⟨z0, z1, z2⟩) (fun hHeld => ?_)
      have HB7 := As.mk (below_drew1 HBx.out); have HE7 : As (W1.drew.heap[W.heap.size]? = some (.cells #[.int .i64 p, .int .i64 t, .slice A6 n2 c6] 43 (0, 0))) := As.mk HE.out; clear HBx HE z0 z1 z2; generalize W1.drew = w7 at HB7 HE7 hHeld ⊢
      refine pure_ (i := 0) (N := some 21) (v := ?_) (a' := ?_) #[true, false, false, false, false, false, false, false, false, false, false, false, false, false, false, false, false, false, false, false, false, false, false, false] rfl rfl (by kernel_rfl) (fun _ _ _ h => h) (Or.inl ⟨by rfl, ?_⟩) ?_ ?_
      rotate_left
      · intro w'
        go_simp
        with_reducible rfl
      rotate_left
      · simp only [Act.put, List.setIfInBounds_toArray, List.set_cons_zero, List.set_cons_succ, i64_w, i32_w]
        rfl
      refine pure_ (i := 1) (N := some 22) (v := ?_) (a' := ?_) #[true, true, false, false, false, false, false, false, false, false, false, false, false, false, false, false, false, false, false, false, false, false, false, false] rfl rfl (by kernel_rfl) (fun _ _ _ h => h) (Or.inl ⟨by rfl, ?_⟩) ?_ ?_
      rotate_left
      · intro w'
        go_simp
        with_reducible rfl
      rotate_left
      · simp only [Act.put, List.setIfInBounds_toArray, List.set_cons_zero, List.set_cons_succ, i64_w, i32_w]
        rfl
      refine pure_ (i := 3) (N := some 24) (v := ?_) (a' := ?_) #[true, true, false, true, false, false, false, false, false, false, false, false, false, false, false, false, false, false, false, false, false, false, false, false] rfl rfl (by kernel_rfl) (fun _ _ _ h => h) (Or.inl ⟨by rfl, ?_⟩) ?_ ?_
      rotate_left
      · intro w'
        go_simp
        with_reducible rfl
      rotate_left
      · simp only [Act.put, List.setIfInBounds_toArray, List.set_cons_zero, List.set_cons_succ, i64_w, i32_w]
        rfl
      refine pure_ (i := 5) (N := some 26) (v := ?_) (a' := ?_) #[true, true, false, true, false, true, false, false, false, false, false, false, false, false, false, false, false, false, false, false, false, false, false, false] rfl rfl (by kernel_rfl) (fun _ _ _ h => h) (Or.inl ⟨by rfl, ?_⟩) ?_ ?_
      rotate_left
      · intro w'
        go_simp
        with_reducible rfl
      rotate_left
      · simp only [Act.put, List.setIfInBounds_toArray, List.set_cons_zero, List.set_cons_succ, i64_w, i32_w]
        rfl
      refine pure_ (i := 7) (N := some 28) (v := ?_) (a' := ?_) #[true, true, false, true, false, true, false, true, false, false, false, false, false, false, false, false, false, false, false, false, false, false, false, false] rfl rfl (by kernel_rfl) (fun _ _ _ h => h) (Or.inl ⟨by rfl, ?_⟩) ?_ ?_
      rotate_left
      · intro w'
        go_simp
        with_reducible rfl
      rotate_left
      · simp only [Act.put, List.setIfInBounds_toArray, List.set_cons_zero, List.set_cons_succ, i64_w, i32_w]
        rfl
      refine pure_ (i := 9) (N := some 30) (v := ?_) (a' := ?_) #[true, true, false, true, false, true, false, true, false, true, false, false, false, false, false, false, false, false, false, false, false, false, false, false] rfl rfl (by kernel_rfl) (fun _ _ _ h => h) (Or.inl ⟨by rfl, ?_⟩) ?_ ?_
      rotate_left
      · intro w'
        go_simp
        with_reducible rfl
      rotate_left
      · simp only [Act.put, List.setIfInBounds_toArray, List.set_cons_zero, List.set_cons_succ, i64_w, i32_w]
        rfl
      refine pure_ (i := 13) (N := some 34) (v := ?_) (a' := ?_) #[true, true, false, true, false, true, false, true, false, true, false, false, false, true, false, false, false, false, false, false, false, false, false, false] rfl rfl (by kernel_rfl) (fun _ _ _ h => h) (Or.inl ⟨by rfl, ?_⟩) ?_ ?_
      rotate_left
      · intro w'
        go_simp
        with_reducible rfl
      rotate_left
      · simp only [Act.put, List.setIfInBounds_toArray, List.set_cons_zero, List.set_cons_succ, i64_w, i32_w]
        rfl
      refine pure_ (i := 14) (N := some 35) (v := ?_) (a' := ?_) #[true, true, false, true, false, true, false, true, false, true, false, false, false, true, true, false, false, false, false, false, false, false, false, false] rfl rfl (by kernel_rfl) (fun _ _ _ h => h) (Or.inl ⟨by rfl, ?_⟩) ?_ ?_
      rotate_left
      · intro w'
        go_simp
        with_reducible rfl
      rotate_left
      · simp only [Act.put, List.setIfInBounds_toArray, List.set_cons_zero, List.set_cons_succ, i64_w, i32_w]
        rfl
      refine pure_ (i := 16) (N := some 37) (v := ?_) (a' := ?_) #[true, true, false, true, false, true, false, true, false, true, false, false, false, true, true, false, true, false, false, false, false, false, false, false] rfl rfl (by kernel_rfl) (fun _ _ _ h => h) (Or.inl ⟨by rfl, ?_⟩) ?_ ?_
      rotate_left
      · intro w'
        go_simp
        with_reducible rfl
      rotate_left
      · simp only [Act.put, List.setIfInBounds_toArray, List.set_cons_zero, List.set_cons_succ, i64_w, i32_w]
        rfl
      refine take_ (i := 2) (N := some 23) (v := ?_) (a' := ?_) #[true, true, true, true, false, true, false, true, false, true, false, false, false, true, true, false, true, false, false, false, false, false, false, false] rfl rfl (by kernel_rfl) (fun _ _ _ h => h) (Or.inl ⟨by rfl, ?_⟩) hHeld ?_ ?_
      rotate_left
      · intro w' hS'
        obtain ⟨s0_, s1_, s2_⟩ := hS'
        go_simp
        with_reducible rfl
      rotate_left
      · simp only [Act.put, List.setIfInBounds_toArray, List.set_cons_zero, List.set_cons_succ, i64_w, i32_w]
        rfl
      refine pure_ (i := 4) (N := some 25) (v := ?_) (a' := ?_) #[true, true, true, true, true, true, false, true, false, true, false, false, false, true, true, false, true, false, false, false, false, false, false, false] rfl rfl (by kernel_rfl) (fun _ _ _ h => h) (Or.inl ⟨by rfl, ?_⟩) ?_ ?_
      rotate_left
      · intro w'
        go_simp
        with_reducible rfl
      rotate_left
      · simp only [Act.put, List.setIfInBounds_toArray, List.set_cons_zero, List.set_cons_succ, i64_w, i32_w]
        rfl
      refine take_ (i := 6) (N := some 27) (v := ?_) (a' := ?_) #[true, true, true, true, true, true, true, true, false, true, false, false, false, true, true, false, true, false, false, false, false, false, false, false] rfl rfl (by kernel_rfl) (fun _ _ _ h => h) (Or.inl ⟨by rfl, ?_⟩) hHeld ?_ ?_
      rotate_left
      · intro w' hS'
        obtain ⟨s0_, s1_, s2_⟩ := hS'
        go_simp
        with_reducible rfl
      rotate_left
      · simp only [Act.put, List.setIfInBounds_toArray, List.set_cons_zero, List.set_cons_succ, i64_w, i32_w]
        rfl
      refine pure_ (i := 8) (N := some 29) (v := ?_) (a' := ?_) #[true, true, true, true, true, true, true, true, true, true, false, false, false, true, true, false, true, false, false, false, false, false, false, false] rfl rfl (by kernel_rfl) (fun _ _ _ h => h) (Or.inl ⟨by rfl, ?_⟩) ?_ ?_
      rotate_left
      · intro w'
        go_simp
        with_reducible rfl
      rotate_left
      · simp only [Act.put, List.setIfInBounds_toArray, List.set_cons_zero, List.set_cons_succ, i64_w, i32_w]
        rfl
      refine take_ (i := 10) (N := some 31) (v := ?_) (a' := ?_) #[true, true, true, true, true, true, true, true, true, true, true, false, false, true, true, false, true, false, false, false, false, false, false, false] rfl rfl (by kernel_rfl) (fun _ _ _ h => h) (Or.inl ⟨by rfl, ?_⟩) hHeld ?_ ?_
      rotate_left
      · intro w' hS'
        obtain ⟨s0_, s1_, s2_⟩ := hS'
        go_simp
        with_reducible rfl
      rotate_left
      · simp only [Act.put, List.setIfInBounds_toArray, List.set_cons_zero, List.set_cons_succ, i64_w, i32_w]
        rfl
      refine pure_ (i := 11) (N := some 32) (v := ?_) (a' := ?_) #[true, true, true, true, true, true, true, true, true, true, true, true, false, true, true, false, true, false, false, false, false, false, false, false] rfl rfl (by kernel_rfl) (fun _ _ _ h => h) (Or.inl ⟨by rfl, ?_⟩) ?_ ?_
      rotate_left
      · intro w'
        go_simp
        with_reducible rfl
      rotate_left
      · simp only [Act.put, List.setIfInBounds_toArray, List.set_cons_zero, List.set_cons_succ, i64_w, i32_w]
        rfl
      refine pure_ (i := 12) (N := some 33) (v := ?_) (a' := ?_) #[true, true, true, true, true, true, true, true, true, true, true, true, true, true, true, false, true, false, false, false, false, false, false, false] rfl rfl (by kernel_rfl) (fun _ _ _ h => h) (Or.inl ⟨by rfl, ?_⟩) ?_ ?_
      rotate_left
      · intro w'
        go_simp
        with_reducible rfl
      rotate_left
      · simp only [Act.put, List.setIfInBounds_toArray, List.set_cons_zero, List.set_cons_succ, i64_w, i32_w]
        rfl
      refine take_ (i := 15) (N := some 36) (v := ?_) (a' := ?_) #[true, true, true, true, true, true, true, true, true, true, true, true, true, true, true, true, true, false, false, false, false, false, false, false] rfl rfl (by kernel_rfl) (fun _ _ _ h => h) (Or.inl ⟨by rfl, ?_⟩) hHeld ?_ ?_
      rotate_left
      · intro w' hS'
        obtain ⟨s0_, s1_, s2_⟩ := hS'
        go_simp
        with_reducible rfl
      rotate_left
      · simp only [Act.put, List.setIfInBounds_toArray, List.set_cons_zero, List.set_cons_succ, i64_w, i32_w]
        rfl
      refine take_ (i := 17) (N := some 38) (v := ?_) (a' := ?_) #[true, true, true, true, true, true, true, true, true, true, true, true, true, true, true, true, true, true, false, false, false, false, false, false] rfl rfl (by kernel_rfl) (fun _ _ _ h => h) (Or.inl ⟨by rfl, ?_⟩) hHeld ?_ ?_
      rotate_left
      · intro w' hS'
        obtain ⟨s0_, s1_, s2_⟩ := hS'
        go_simp
        with_reducible rfl
      rotate_left
      · simp only [Act.put, List.setIfInBounds_toArray, List.set_cons_zero, List.set_cons_succ, i64_w, i32_w]
        rfl
      refine pure_ (i := 18) (N := some 39) (v := ?_) (a' := ?_) #[true, true, true, true, true, true, true, true, true, true, true, true, true, true, true, true, true, true, true, false, false, false, false, false] rfl rfl (by kernel_rfl) (fun _ _ _ h => h) (Or.inl ⟨by rfl, ?_⟩) ?_ ?_
      rotate_left
      · intro w'
        go_simp
        with_reducible rfl
      rotate_left
      · simp only [Act.put, List.setIfInBounds_toArray, List.set_cons_zero, List.set_cons_succ, i64_w, i32_w]
        rfl
      refine one_ (i := 19) (N := some 40) #[true, true, true, true, true, true, true, true, true, true, true, true, true, true, true, true, true, true, true, true, false, false, false, false] rfl rfl (by kernel_rfl) (by decide) (fun K hK => ?_)
      clear w1e w2e w3e w4e w5e
      refine goes_ Try.func42 (by kernel_rfl) rfl #[.slice B' (t - p) (c - p)] (by rfl) rfl rfl (by simp [Act.eval]) ?_
      have hcl := cloneI_any B' (c - p) (cutB a p t) w7 (by rw [HL.out]; exact Kd.C_below HCC.out HB7.out) (by rw [HL.out]; omega)
      rw [HL.out] at hcl
      refine hcl.mono ?_
      clear hcl
      rintro e w8 ⟨v2, rfl, ho2, hb8⟩
      refine ⟨v2, rfl, ?_⟩
      obtain ⟨A2, c2, rfl⟩ := Kd.R_slice ho2
      have HO2 := As.mk ho2
      have HB8 := As.mk hb8
      clear ho2
      obtain ⟨hh0, hh1, hh2⟩ := hHeld
      refine hK.out _ _ ⟨pw_cell_below hb8 hh0, pw_cell_below hb8 hh1, pw_cell_below hb8 hh2⟩ (fun hHeld => ?_)
      clear hK K hh0 hh1 hh2 hb8
      refine norm_ (a' := ?_) ?_ ?_
      rotate_left
      · (simp only [Act.put, List.setIfInBounds_toArray, List.set_cons_zero, List.set_cons_succ]; rfl)
      refine pure_ (i := 20) (N := some 41) (v := ?_) (a' := ?_) #[true, true, true, true, true, true, true, true, true, true, true, true, true, true, true, true, true, true, true, true, true, false, false, false] rfl rfl (by kernel_rfl) (fun _ _ _ h => h) (Or.inl ⟨by rfl, ?_⟩) ?_ ?_
      rotate_left
      · intro w'
        go_simp
        with_reducible rfl
      rotate_left
      · simp only [Act.put, List.setIfInBounds_toArray, List.set_cons_zero, List.set_cons_succ, i64_w, i32_w]
        rfl
      refine one_ (i := 21) (N := some 42) #[true, true, true, true, true, true, true, true, true, true, true, true, true, true, true, true, true, true, true, true, true, true, false, false] rfl rfl (by kernel_rfl) (by decide) (fun K hK => ?_)
      refine value_ (w1 := w8.alloc (.cells #[.int .i64 (wrap64 ((p : Int) + N)), .int .i64 (wrap64 ((q : Int) + (n2 : Int))), .slice A2 (cutB a p t).length c2] 43)) (v := .slice (some ⟨w8.heap.size, 0, none⟩) 1 1) (by rfl) rfl ?_ ?_
      · first | (go_simp; done) | (go_simp; rfl)
      refine hK.out _ _ (by obtain ⟨hh0, hh1, hh2⟩ := hHeld; exact ⟨pw_cell_below (below_alloc (Below.refl _ _) _) hh0, pw_cell_below (below_alloc (Below.refl _ _) _) hh1, pw_cell_below (below_alloc (Below.refl _ _) _) hh2⟩) (fun hHeld => ?_)
      clear hK K
      refine norm_ (a' := ?_) ?_ ?_
      rotate_left
      · (simp only [Act.put, List.setIfInBounds_toArray, List.set_cons_zero, List.set_cons_succ]; rfl)
      refine one_ (i := 22) (N := some 43) #[true, true, true, true, true, true, true, true, true, true, true, true, true, true, true, true, true, true, true, true, true, true, true, false] rfl rfl (by kernel_rfl) (by decide) (fun K hK => ?_)
      have hrx := HX.out.1
      have hlx := HX.out.2.1
      have hBw := bt_ HT2.out.below HB7.out
      refine Kd.R_append_step k43 (w0 := w) w.heap.size (by rfl) (.tmp 21) (.tmp 42) 40 43 (.agg #[.int .i64 0, .int .i64 0, .slice none 0 0]) 40 rfl Try.underlying40 info_ed rfl (by decide) (by omega) u6 xs ⟨q, r, cutB a p t⟩ [.int .i64 (wrap64 ((p : Int) + N)), .int .i64 (wrap64 ((q : Int) + (n2 : Int))), .slice A2 (cutB a p t).length c2] (fun _ => True) (fun z => w7.heap.size ≤ z) (by rfl) (by rfl) (by rw [HW.out.1, HW.out.2.1]; exact k43_mkM _ _ _ _ (Kd.R_lower (Kd.R_mono (Kd.R_bound HO2.out) (fun z hz => hz.2.1)) hBw.size)) (fun z hz => ⟨trivial, fun he => absurd (Kd.R_lt (Kd.R_below hrx HB7.out) z he.symm) (by omega)⟩) (fun _ _ => trivial) (Kd.R_below (Kd.R_below hrx HB7.out) HB8.out) (bt_ hBw HB8.out) (Nat.le_trans hBw.size HB8.out.size) (by omega) ?_
      clear hrx hlx hBw
      intro v1 w9 ho hb9 hg hat
      have HB9 := As.mk hb9
      have HO9 := As.mk ho
      have HE8 := (HB8.out.block _ (blk_lt HE7.out)).trans HE7.out
      have hne : some W.heap.size ≠ u6.ownBlock := fun he => absurd (Kd.R_lt HX.out.1 _ he.symm) (Nat.lt_irrefl _)
      have hw8 : W.heap.size < w8.heap.size := blk_lt HE8
      obtain ⟨hh0, hh1, hh2⟩ := hHeld
      refine hK.out _ _ ⟨cell_grown hg (cell_unalloc hh0 hw8) hne, cell_grown hg (cell_unalloc hh1 hw8) hne, cell_grown hg (cell_unalloc hh2 hw8) hne⟩ (fun hHeld => ?_)
      clear hK K hh0 hh1 hh2 hg hat ho hb9 HE8 hne
      refine norm_ (a' := ?_) ?_ ?_
      rotate_left
      · (simp only [Act.put, List.setIfInBounds_toArray, List.set_cons_zero, List.set_cons_succ]; rfl)
      refine pure_ (i := 23) (N := some 6) (v := ?_) (a' := ?_) #[true, true, true, true, true, true, true, true, true, true, true, true, true, true, true, true, true, true, true, true, true, true, true, true] rfl rfl (by kernel_rfl) (fun _ _ _ h => h) (Or.inl ⟨by rfl, ?_⟩) ?_ ?_
      rotate_left
      · intro w'
        go_simp
        with_reducible rfl
      rotate_left
      · simp only [Act.put, List.setIfInBounds_toArray, List.set_cons_zero, List.set_cons_succ, i64_w, i32_w]
        rfl
      refine done_ (by kernel_rfl) ?_
      obtain ⟨z0, z1, z2⟩ := hHeld
      have hNb : -100000 ≤ N ∧ N ≤ 100000 := by
        obtain ⟨_, i', k', s2, _, _, hN', hmk', _⟩ := HT2.out.out
        have := hmk'.le
        omega
      obtain ⟨hN1, hN2⟩ := hNb
      have n2b : n2 ≤ 100000 := by have := HQ.out.2.1; omega
      have j2b : J ≤ 2000 := by omega
      obtain ⟨t', ht'⟩ : ∃ t', t' = t - p := ⟨_, rfl⟩
      have ht2 : (t : Int) = p + t' := by omega
      have p2b : p ≤ 100000 := by omega
      have t2b : t ≤ 100000 := by omega
      clear ht'
      have HTP := As.mk ht2
      clear ht2
      go_wp2
      go_roundg g1
      case measure => omega
      case rel =>
        refine ⟨J + 1, N + ((n2 : Int) - ((t : Int) - p)), _, ?_, by go_num, by omega, ⟨by have := HG.out; omega⟩, ⟨rfl⟩, ⟨HB9.out, _, t, r, s', HO9.out, by rw [List.length_append, HX.out.2.1]; rfl, ?_, HX.out.2.2.1, ?_⟩⟩
        · congr 1
        · have h_ : wrap64 (N + ((n2 : Int) - ((t : Int) - p))) = N + ((n2 : Int) - ((t : Int) - p)) := w64d (by omega) (by omega)
          exact h_.symm.trans HW.out.2.2.2.2
        · have h_ : wrap64 (N + ((n2 : Int) - ((t : Int) - p))) = N + ((n2 : Int) - ((t : Int) - p)) := w64d (by omega) (by omega)
          rw [h_.symm.trans HW.out.2.2.2.2]; exact HX.out.2.2.2
    · obtain rfl : J = es.length := by omega
      go_wp2
      go_ret2
      obtain ⟨xs, i, k, s, hxr, hxl, hN, hmk, hxt⟩ := HT2.out.out
      rw [List.drop_length] at hxt
      have hx : xs = turnG a 0 es := by rw [← hxt]; simp [turnG]
      exact ⟨_, rfl, by rw [← hx]; exact hxr, HT2.out.below⟩
end Go.Proofs.Ytphdbombgljamaa.Df
