import Derived.Test.YtkffhgiiejbnaaaGreatQHeapC
set_option maxRecDepth 100000
set_option maxHeartbeats 400000
set_option linter.unusedVariables false
set_option linter.unusedSimpArgs false
namespace Go.Proofs.YtkffhgiiejbnaaaGreat.Hq
open Go.RowKit YtkffhgiiejbnaaaGreatW.PrintWords YtkffhgiiejbnaaaGreatW.PrintLast YtkffhgiiejbnaaaGreatW.PrintMore Aid Mp Hp
theorem up_next {l : List (Th Wx)} {k m : Nat} {x y : Th Wx} (hm : m = (k - 1) / 2) (hk0 : 0 < k) (hk : k < l.length) (h : UpInv l k) (hx : l[k]? = some x) (hy : l[m]? = some y) (hl : lessT x y = true) : UpInv (swapL l k m) m := by
 subst hm
 refine up_step h hk hk0 (fun a b ha hb => ?_)
 rw [hx] at ha; rw [hy] at hb
 injection ha with ha; injection hb with hb; subst ha; subst hb
 exact Le.of_less hl
theorem up_stop {l : List (Th Wx)} {k m : Nat} {x y : Th Wx} (hm : m = (k - 1) / 2) (h : UpInv l k) (hx : l[k]? = some x) (hy : l[m]? = some y) (hl : lessT x y = false) : Heap l := by
 subst hm
 refine up_done h (.inr (fun a b ha hb => ?_))
 rw [hy] at ha; rw [hx] at hb
 injection ha with ha; injection hb with hb; subst ha; subst hb
 exact hl
structure Sifted (w w' : World) (base h : Nat) (v : Value) (n : Int) (l : List (Th Wx)) : Prop where
 mk :: (out : ∃ l', HpAt w' base h v n l' ∧ l'.Perm l ∧ Heap l') (below : Below base w w') (kept : HK h w w')
theorem up_any {w : World} {base h : Nat} {v : Value} {n : Int} {l : List (Th Wx)} (H : HpAt w base h v n l) (k : Nat) (hk : k < l.length) (hu : UpInv l k) :
  Calls Tryz.prog 187 #[.pointer (some ⟨h, 0, none⟩), .int .i64 (k : Int)] w fun e w' => e = .returned (.tuple #[]) ∧ Sifted w w' base h v n l := by
 have HL := As.mk hk
 have H0 := As.mk H
 have U0 := As.mk hu
 clear H hu hk
 go_enter Tryz.func187, Tryz.ntmps187
 go_wp2_with fail
 go_loopg [1] k (fun f v1 w' => ∃ (i : Nat) (l' : List (Th Wx)) (W : World), v1 = .int .i64 (i : Int) ∧ As (W = w') ∧ As (i < l'.length ∧ l'.length = l.length) ∧ As (HpAt W base h v n l') ∧ As (l'.Perm l) ∧ As (UpInv l' i) ∧ As (i ≤ f) ∧ As (Below base w W) ∧ As (HK h w W))
 case atStart => exact ⟨k, l, w, rfl, ⟨rfl⟩, ⟨HL.out, rfl⟩, H0, ⟨List.Perm.refl _⟩, U0, ⟨Nat.le_refl _⟩, ⟨Below.refl _ _⟩, ⟨HK.refl _ _⟩⟩
 case round =>
  clear H0 U0
  obtain ⟨i, l', W, rfl, HW, HI, HH, HP, HU, HK1, HB, HKK⟩ := hrel
  have hW := HW.out
  subst hW
  clear HW
  by_cases h0 : i = 0
  ·subst h0
   have hz : ((0 : Nat) : Int) = 0 := rfl
   have hn : ¬ (0 : Int) < ((0 : Nat) : Int) := by omega
   go_wp2
   go_end0
   exact ⟨rfl, ⟨l', HH.out, HP.out, up_done HU.out (.inl rfl)⟩, HB.out, HKK.out⟩
  ·obtain ⟨m, hm⟩ : ∃ m, m = (i - 1) / 2 := ⟨_, rfl⟩
   have hmI : ((i : Int) - 1) / 2 = (m : Int) := by omega
   have hi0 : (0 : Int) < (i : Int) := by omega
   have hi1 : (0 : Int) ≤ (i : Int) - 1 := by omega
   have hi2 : (1 : Int) ≤ (i : Int) := by omega
   have hmi : m < i := by omega
   have HM := As.mk hm
   obtain ⟨g, cap, rfl, hbg, hlt, hne, hcap, cells, hg⟩ := HH.out.form (by have := HI.out.1; omega)
   obtain ⟨x, hx⟩ : ∃ x, l'[i]? = some x := ⟨_, List.getElem?_eq_getElem HI.out.1⟩
   obtain ⟨y, hy⟩ : ∃ y, l'[m]? = some y := ⟨_, List.getElem?_eq_getElem (by have := HI.out.1; omega)⟩
   have HX := As.mk hx
   have HY := As.mk hy
   have hiI : (i : Int) < (l'.length : Int) := by have := HI.out.1; omega
   have hmL : (m : Int) < (l'.length : Int) := by omega
   have hm0 : (0 : Int) ≤ (m : Int) := by omega
   obtain ⟨f, rfl⟩ : ∃ f, gk = f + 1 := ⟨gk - 1, by have := HK1.out; omega⟩
   have hbig : (i : Int) ≤ 9223372036854775807 := by
    have h1 := (Kd.R_reads' HH.out.rows).2.2
    have := h1.2.1
    omega
   clear hx hy hg hm h0
   go_wp2_with fail
   refine start_ (n := 18) (S := fun w' => Below W.heap.size W w') (ds := []) #[false, false, false, false, false, false, false, false, false, false, false, false, false, false, false, false, false, false] (by kernel_rfl) rfl rfl (below_drew1 (Below.refl _ _)) (fun hHeld => ?_)
   have HW9 := As.mk hHeld; clear hHeld; generalize W.drew = w9 at HW9 ⊢; have hHeld := HW9.out
   refine pI 0 (some 10) (bs 18 1) ?_
   refine pI 1 (some 11) (bs 18 3) ?_
   refine pI 2 (some 12) (bs 18 7) ?_
   refine pI 4 (some 14) (bs 18 23) ?_
   refine pI 8 (some 18) (bs 18 279) ?_
   refine pI 9 (some 19) (bs 18 791) ?_
   refine pI 10 (some 20) (bs 18 1815) ?_
   refine pI 12 (some 22) (bs 18 5911) ?_
   refine tI 3 (some 13) (bs 18 5919) rfl (by intro w' hS'; have s0 := hS'; have hh := HH.out.below hS'; have c0 := cell_of (i := 0) hh.blk rfl; have a0 := (hh.elem HX.out).1 0 _ rfl; have a1 := (hh.elem HX.out).1 1 _ rfl; have a2 := (hh.elem HX.out).1 2 _ rfl; have b0 := (hh.elem HY.out).1 0 _ rfl; have b1 := (hh.elem HY.out).1 1 _ rfl; have b2 := (hh.elem HY.out).1 2 _ rfl; simp only [Nat.add_zero] at a0 b0; clear hh; go_simp; with_reducible rfl) hHeld ?_
   refine pI 5 (some 15) (bs 18 5951) ?_
   refine pI 6 (some 16) (bs 18 6015) ?_
   refine tI 7 (some 17) (bs 18 6143) rfl (by intro w' hS'; have s0 := hS'; have hh := HH.out.below hS'; have c0 := cell_of (i := 0) hh.blk rfl; have a0 := (hh.elem HX.out).1 0 _ rfl; have a1 := (hh.elem HX.out).1 1 _ rfl; have a2 := (hh.elem HX.out).1 2 _ rfl; have b0 := (hh.elem HY.out).1 0 _ rfl; have b1 := (hh.elem HY.out).1 1 _ rfl; have b2 := (hh.elem HY.out).1 2 _ rfl; simp only [Nat.add_zero] at a0 b0; clear hh; go_simp; with_reducible rfl) hHeld ?_
   refine tI 11 (some 21) (bs 18 8191) rfl (by intro w' hS'; have s0 := hS'; have hh := HH.out.below hS'; have c0 := cell_of (i := 0) hh.blk rfl; have a0 := (hh.elem HX.out).1 0 _ rfl; have a1 := (hh.elem HX.out).1 1 _ rfl; have a2 := (hh.elem HX.out).1 2 _ rfl; have b0 := (hh.elem HY.out).1 0 _ rfl; have b1 := (hh.elem HY.out).1 1 _ rfl; have b2 := (hh.elem HY.out).1 2 _ rfl; simp only [Nat.add_zero] at a0 b0; clear hh; go_simp; with_reducible rfl) hHeld ?_
   refine pI 13 (some 23) (bs 18 16383) ?_
   refine pI 14 (some 24) (bs 18 32767) ?_
   refine tI 15 (some 25) (bs 18 65535) rfl (by intro w' hS'; have s0 := hS'; have hh := HH.out.below hS'; have c0 := cell_of (i := 0) hh.blk rfl; have a0 := (hh.elem HX.out).1 0 _ rfl; have a1 := (hh.elem HX.out).1 1 _ rfl; have a2 := (hh.elem HX.out).1 2 _ rfl; have b0 := (hh.elem HY.out).1 0 _ rfl; have b1 := (hh.elem HY.out).1 1 _ rfl; have b2 := (hh.elem HY.out).1 2 _ rfl; simp only [Nat.add_zero] at a0 b0; clear hh; go_simp; with_reducible rfl) hHeld ?_
   refine one_ (i := 16) (N := some 26) (bs 18 131071) rfl rfl (by kernel_rfl) (by decide) (fun K hK => ?_)
   refine goes_ Tryz.func189 (by kernel_rfl) rfl #[.agg #[.int .i64 x.r, .int .i64 x.p, .int .i64 x.t], .agg #[.int .i64 y.r, .int .i64 y.p, .int .i64 y.t]] (by rfl) rfl rfl (by simp [Act.eval]) ?_
   refine (less_any x y _).mono ?_
   rintro e w10 ⟨rfl, hb⟩
   refine ⟨_, rfl, ?_⟩
   have HW10 := As.mk (bt_ HW9.out hb)
   refine hK.out _ _ HW10.out (fun _ => ?_)
   clear hK K hb HW9 hHeld
   refine nI ?_
   refine pI 17 (some 27) (bs 18 262143) ?_
   refine done_ (by kernel_rfl) ?_
   have HH2 := As.mk (HH.out.below HW10.out)
   have HB2 := As.mk (HB.out.trans (HW10.out.mono (Nat.le_trans HH.out.le (Nat.le_of_lt HH.out.lt))))
   have HK2 := As.mk (HKK.out.trans (HK.of_below HW10.out))
   clear HH HB HKK HW10
   cases hl : lessT x y with
   | false =>
    have HS := As.mk (up_stop HM.out HU.out HX.out HY.out hl)
    clear hl
    go_wp2
    refine bodyPost_ret (results_none rfl _ _ _) rfl ?_
    exact ⟨rfl, ⟨l', HH2.out, HP.out, HS.out⟩, HB2.out, HK2.out⟩
   | true =>
    have HS := As.mk (up_next HM.out (by omega) HI.out.1 HU.out HX.out HY.out hl)
    have HSW := As.mk (swap_any HH2.out i m HI.out.1 (by have := HI.out.1; omega))
    have HLN := As.mk (swap_len l' i m)
    have HPM := As.mk (swap_perm (l := l') (i := i) (k := m))
    clear hl HU
    generalize swapL l' i m = l2 at *
    go_wp2_with (go_at_call 185; refine HSW.out.mono ?_; rintro e w11 ⟨rfl, hh, hb, hkk⟩; have HH3 := As.mk hh; have HB3 := As.mk (HB2.out.trans hb); have HK3 := As.mk (HK2.out.trans hkk); clear hh hb hkk HSW)
    go_roundg f
    case measure => omega
    case rel => exact ⟨m, l2, _, rfl, ⟨rfl⟩, ⟨by rw [HLN.out]; have := HI.out.1; omega, HLN.out.trans HI.out.2⟩, ⟨by have h := HH3.out; rw [← HLN.out] at h; first | exact h | exact HH3.out⟩, ⟨HPM.out.trans HP.out⟩, HS, ⟨by have := HK1.out; omega⟩, HB3, HK3⟩
end Go.Proofs.YtkffhgiiejbnaaaGreat.Hq
namespace Go.Proofs.YtkffhgiiejbnaaaGreat.Hq
open Go.RowKit YtkffhgiiejbnaaaGreatW.PrintWords YtkffhgiiejbnaaaGreatW.PrintLast YtkffhgiiejbnaaaGreatW.PrintMore Aid Mp Hp
def leastJ (l : List (Th Wx)) (i : Nat) : Nat → Nat
 | 0 => i
 | j + 1 => pickF l (2 * i + 1 + j) (leastJ l i j)
theorem leastJ_two (l : List (Th Wx)) (i : Nat) : leastJ l i 2 = leastF l i := rfl
theorem pick_out {l : List (Th Wx)} {k m : Nat} (hk : l.length ≤ k) : pickF l k m = m := by unfold pickF; rw [List.getElem?_eq_none hk]
theorem pick_in {l : List (Th Wx)} {k m : Nat} {x y : Th Wx} (hx : l[k]? = some x) (hy : l[m]? = some y) : pickF l k m = if lessT x y = true then k else m := by unfold pickF; rw [hx, hy]
theorem leastJ_lt {l : List (Th Wx)} {i : Nat} (hi : i < l.length) : ∀ j, leastJ l i j < l.length
 | 0 => hi
 | j + 1 => (pick_spec (leastJ_lt hi j)).1
theorem leastJ_le {l : List (Th Wx)} {i : Nat} (hi : l.length ≤ i) : ∀ j, leastJ l i j = i
 | 0 => rfl
 | j + 1 => (pick_out (by omega)).trans (leastJ_le hi j)
theorem down_next {l : List (Th Wx)} {i m : Nat} (hm : leastF l i = m) (hne : m ≠ i) (hi : i < l.length) (h : DownInv l i) : m < l.length ∧ i < m ∧ DownInv (swapL l i m) m := by
 subst hm
 obtain ⟨a1, a2, a3, a4, a5⟩ := least_spec hi
 have hm : leastF l i = 2 * i + 1 ∨ leastF l i = 2 * i + 2 := by rcases a2 with a | a; exact absurd a hne; exact a
 exact ⟨a1, by omega, down_step h hi a1 hm a3 a4 a5⟩
theorem down_stop {l : List (Th Wx)} {i : Nat} (hm : leastF l i = i) (h : DownInv l i) : Heap l := by
 by_cases hi : i < l.length
 ·obtain ⟨a1, a2, a3, a4, a5⟩ := least_spec hi
  rw [hm] at a4 a5
  exact down_done h a4 a5
 ·intro j hj x y hx hy
  exact down_done h (Rel.out (by omega)) (Rel.out (by omega)) j hj x y hx hy
theorem info_int : (Tryz.prog.info? 3).map (·.size) = some 1 := by kernel_rfl
theorem index_0 (x y : Int) (W : World) : (Instr.index 295 (.agg #[.int .i64 x, .int .i64 y]) (.int .i64 0)).run Tryz.prog W = .ok (.int .i64 x) W := by
 obtain ⟨i, hi, hsz⟩ := Option.map_eq_some_iff.1 info_int
 simp [Instr.index, run_underlying Tryz.underlying295, asIntOf, part, sizeOf, typeInfo, hi, hsz, go_sem]
theorem index_1 (x y : Int) (W : World) : (Instr.index 295 (.agg #[.int .i64 x, .int .i64 y]) (.int .i64 1)).run Tryz.prog W = .ok (.int .i64 y) W := by
 obtain ⟨i, hi, hsz⟩ := Option.map_eq_some_iff.1 info_int
 simp [Instr.index, run_underlying Tryz.underlying295, asIntOf, part, sizeOf, typeInfo, hi, hsz, go_sem]
theorem down_any {w : World} {base h : Nat} {v : Value} {n : Int} {l : List (Th Wx)} (H : HpAt w base h v n l) (hu : DownInv l 0) (hl : l.length ≤ 1000000000) :
  Calls Tryz.prog 186 #[.pointer (some ⟨h, 0, none⟩), .int .i64 0] w fun e w' => e = .returned (.tuple #[]) ∧ Sifted w w' base h v n l := by
 have H0 := As.mk H
 have U0 := As.mk hu
 have HLL := As.mk hl
 clear H hu hl
 go_enter Tryz.func186, Tryz.ntmps186
 go_wp2_with fail
 go_loopg [1] (l.length + 1) (fun f v1 w' => ∃ (i : Nat) (l' : List (Th Wx)) (W : World), v1 = .int .i64 (i : Int) ∧ As (W = w') ∧ As ((i < l'.length ∨ i = 0) ∧ l'.length = l.length) ∧ As (HpAt W base h v n l') ∧ As (l'.Perm l) ∧ As (DownInv l' i) ∧ As (l.length + 1 ≤ i + f) ∧ As (Below base w W) ∧ As (HK h w W))
 case atStart => exact ⟨0, l, w, rfl, ⟨rfl⟩, ⟨.inr rfl, rfl⟩, H0, ⟨List.Perm.refl _⟩, U0, ⟨by omega⟩, ⟨Below.refl _ _⟩, ⟨HK.refl _ _⟩⟩
 case round =>
  clear H0 U0
  obtain ⟨i, l', W, rfl, HW, HI, HH, HP, HU, HK1, HB, HKK⟩ := hrel
  have hW := HW.out
  subst hW
  clear HW
  obtain ⟨f, rfl⟩ : ∃ f, gk = f + 1 := ⟨gk - 1, by have := HK1.out; have := HI.out; omega⟩
  have hi0 : (0 : Int) ≤ (i : Int) := by omega
  have hib : (i : Int) ≤ 1000000000 := by have := HI.out; have := HLL.out; omega
  have e1 : 2 * (i : Int) + 1 = ((2 * i + 1 + 0 : Nat) : Int) := by omega
  have e2 : 2 * (i : Int) + 2 = ((2 * i + 1 + 1 : Nat) : Int) := by omega
  have HK2 := As.mk (show (2 * i + 1 + 0 = 2 * i + 1 + 0) ∧ (2 * i + 1 + 1 = 2 * i + 1 + 1) from ⟨rfl, rfl⟩)
  have hk1b : ((2 * i + 1 + 0 : Nat) : Int) ≤ 3000000000 := by omega
  have hk2b : ((2 * i + 1 + 1 : Nat) : Int) ≤ 3000000000 := by omega
  generalize hk1 : 2 * i + 1 + 0 = k1 at e1 hk1b
  generalize hk2 : 2 * i + 1 + 1 = k2 at e2 hk2b
  have HKS := As.mk (And.intro hk1 hk2)
  clear hk1 hk2 HK2
  obtain ⟨A, cap, rfl⟩ := Kd.R_slice HH.out.rows
  go_wp2_with fail
  clear e1 e2
  go_loopg [4, 15] 2 (fun f2 v4 v15 w' => ∃ (j : Nat) (W2 : World), v4 = .int .i64 (leastJ l' i j : Int) ∧ v15 = .int .i64 (j : Int) ∧ j ≤ 2 ∧ As (W2 = w') ∧ As (2 ≤ j + f2) ∧ As (Below W.heap.size W W2))
  case atStart => exact ⟨0, W, rfl, rfl, by omega, ⟨rfl⟩, ⟨by omega⟩, ⟨Below.refl _ _⟩⟩
  case round =>
   obtain ⟨j, W2, rfl, rfl, hj, HW2, HK3, HB2⟩ := hrel
   have hW2 := HW2.out
   subst hW2
   clear HW2
   have HH2 := As.mk (HH.out.below HB2.out)
   by_cases hj2 : j = 2
   ·subst hj2
    have hjn : ¬ ((2 : Nat) : Int) < 2 := by omega
    have hlj : leastJ l' i 2 = leastF l' i := rfl
    rw [hlj]
    clear hlj HK3
    have hlt2 : leastF l' i ≤ 1000000000 := by
     have h1 := HLL.out
     have h2 := HI.out.2
     rcases Nat.lt_or_ge i l'.length with h | h
     ·have := leastJ_lt h 2; rw [leastJ_two] at this; omega
     ·have := leastJ_le h 2; rw [leastJ_two] at this; omega
    have HBW := As.mk (HB.out.trans (HB2.out.mono (Nat.le_trans HH.out.le (Nat.le_of_lt HH.out.lt))))
    have HKW := As.mk (HKK.out.trans (HK.of_below HB2.out))
    generalize hlm : leastF l' i = m at hlt2 ⊢
    by_cases hmi : m = i
    ·subst hmi
     have HS := As.mk (down_stop hlm HU.out)
     clear hlm
     go_wp2_with fail
     refine bodyPost_ret (results_none rfl _ _ _) rfl ?_
     exact ⟨rfl, ⟨l', HH2.out, HP.out, HS.out⟩, HBW.out, HKW.out⟩
    ·have hil : i < l'.length := by
      rcases Nat.lt_or_ge i l'.length with h | h
      ·exact h
      ·have := leastJ_le h 2; rw [leastJ_two, hlm] at this; exact absurd this hmi
     obtain ⟨q1, q2, q3⟩ := down_next hlm hmi hil HU.out
     have HS := As.mk (And.intro q1 (And.intro q2 q3))
     have HSW := As.mk (swap_any HH2.out i m hil q1)
     have HLN := As.mk (swap_len l' i m)
     have HPM := As.mk (swap_perm (l := l') (i := i) (k := m))
     have hne : ((m : Int) == (i : Int)) = false := by simpa using (show ¬ (m : Int) = (i : Int) by omega)
     clear hlm hmi q1 q2 q3 HU
     generalize swapL l' i m = l2 at *
     go_wp2_with (go_at_call 185; refine HSW.out.mono ?_; rintro e w11 ⟨rfl, hh, hb, hkk⟩; have HH3 := As.mk hh; have HB3 := As.mk (HBW.out.trans hb); have HK4 := As.mk (HKW.out.trans hkk); clear hh hb hkk HSW)
     go_roundg f
     case measure => omega
     case rel => exact ⟨m, l2, _, rfl, ⟨rfl⟩, ⟨.inl (by rw [HLN.out]; exact HS.out.1), HLN.out.trans HI.out.2⟩, ⟨by have h := HH3.out; rw [← HLN.out] at h; first | exact h | exact HH3.out⟩, ⟨HPM.out.trans HP.out⟩, ⟨HS.out.2.2⟩, ⟨by have := HK1.out; have := HS.out.2.1; omega⟩, HB3, HK4⟩
   ·have hjI : (j : Int) < 2 := by omega
    obtain ⟨f2, rfl⟩ : ∃ f2, gk = f2 + 1 := ⟨gk - 1, by have := HK3.out; omega⟩
    have hix0 := index_0 (k1 : Int) (k2 : Int) W2
    have hix1 := index_1 (k1 : Int) (k2 : Int) W2
    obtain rfl | rfl : j = 0 ∨ j = 1 := by omega
    ·have hkk : 2 * i + 1 + 0 = k1 := HKS.out.1
     have HLJ := As.mk (show leastJ l' i (0 + 1) = pickF l' k1 (leastJ l' i 0) by rw [← hkk]; rfl)
     have hk0 : (0 : Int) ≤ (k1 : Int) := by omega
     by_cases hlt : k1 < l'.length
     ·have hltI : (k1 : Int) < (l'.length : Int) := by omega
      have hil : i < l'.length := by omega
      have hm := leastJ_lt hil 0
      have HNX := As.mk (fun x y => pick_in (l := l') (k := k1) (m := leastJ l' i 0) (x := x) (y := y))
      generalize leastJ l' i 0 = m at hm HLJ HNX ⊢
      have hmI : (m : Int) < (l'.length : Int) := by omega
      have hm0 : (0 : Int) ≤ (m : Int) := by omega
      obtain ⟨g, cap', hform, hbg, hglt, hne, hcap, cells, hg⟩ := HH2.out.form (by omega)
      injection hform with hform _ hform3
      subst hform; subst hform3
      obtain ⟨x, hx⟩ : ∃ x, l'[k1]? = some x := ⟨_, List.getElem?_eq_getElem hlt⟩
      obtain ⟨y, hy⟩ : ∃ y, l'[m]? = some y := ⟨_, List.getElem?_eq_getElem hm⟩
      have HX := As.mk hx
      have HY := As.mk hy
      have HN2 := As.mk (HLJ.out.trans (HNX.out x y hx hy))
      clear hx hy hg HNX HLJ hkk
      go_wp2_with fail
      refine start_ (n := 26) (S := fun w' => Below W2.heap.size W2 w') (ds := []) #[false, false, false, false, false, false, false, false, false, false, false, false, false, false, false, false, false, false, false, false, false, false, false, false, false, false] (by kernel_rfl) rfl rfl (below_drew1 (Below.refl _ _)) (fun hHeld => ?_)
      have HW9 := As.mk hHeld; clear hHeld; generalize W2.drew = w9 at HW9 ⊢; have hHeld := HW9.out
      refine pI 0 (some 18) (bs 26 1) ?_
      refine pI 1 (some 19) (bs 26 3) ?_
      refine pI 2 (some 20) (bs 26 7) ?_
      refine pI 3 (some 21) (bs 26 15) ?_
      refine tI 4 (some 22) (bs 26 31) rfl (by intro w' hS'; have s0 := hS'; have hh := HH2.out.below hS'; have c0 := cell_of (i := 0) hh.blk rfl; have a0 := (hh.elem HX.out).1 0 _ rfl; have a1 := (hh.elem HX.out).1 1 _ rfl; have a2 := (hh.elem HX.out).1 2 _ rfl; have b0 := (hh.elem HY.out).1 0 _ rfl; have b1 := (hh.elem HY.out).1 1 _ rfl; have b2 := (hh.elem HY.out).1 2 _ rfl; simp only [Nat.add_zero] at a0 b0; clear hh; go_simp; with_reducible rfl) hHeld ?_
      refine pI 5 (some 23) (bs 26 63) ?_
      refine pI 6 (some 24) (bs 26 127) ?_
      refine pI 7 (some 25) (bs 26 255) ?_
      refine pI 8 (some 26) (bs 26 511) ?_
      refine pI 9 (some 27) (bs 26 1023) ?_
      refine pI 10 (some 28) (bs 26 2047) ?_
      refine pI 12 (some 30) (bs 26 6143) ?_
      refine pI 16 (some 34) (bs 26 71679) ?_
      refine pI 17 (some 35) (bs 26 202751) ?_
      refine pI 18 (some 36) (bs 26 464895) ?_
      refine pI 20 (some 38) (bs 26 1513471) ?_
      refine tI 11 (some 29) (bs 26 1515519) rfl (by intro w' hS'; have s0 := hS'; have hh := HH2.out.below hS'; have c0 := cell_of (i := 0) hh.blk rfl; have a0 := (hh.elem HX.out).1 0 _ rfl; have a1 := (hh.elem HX.out).1 1 _ rfl; have a2 := (hh.elem HX.out).1 2 _ rfl; have b0 := (hh.elem HY.out).1 0 _ rfl; have b1 := (hh.elem HY.out).1 1 _ rfl; have b2 := (hh.elem HY.out).1 2 _ rfl; simp only [Nat.add_zero] at a0 b0; clear hh; go_simp; with_reducible rfl) hHeld ?_
      refine pI 13 (some 31) (bs 26 1523711) ?_
      refine pI 14 (some 32) (bs 26 1540095) ?_
      refine tI 15 (some 33) (bs 26 1572863) rfl (by intro w' hS'; have s0 := hS'; have hh := HH2.out.below hS'; have c0 := cell_of (i := 0) hh.blk rfl; have a0 := (hh.elem HX.out).1 0 _ rfl; have a1 := (hh.elem HX.out).1 1 _ rfl; have a2 := (hh.elem HX.out).1 2 _ rfl; have b0 := (hh.elem HY.out).1 0 _ rfl; have b1 := (hh.elem HY.out).1 1 _ rfl; have b2 := (hh.elem HY.out).1 2 _ rfl; simp only [Nat.add_zero] at a0 b0; clear hh; go_simp; with_reducible rfl) hHeld ?_
      refine tI 19 (some 37) (bs 26 2097151) rfl (by intro w' hS'; have s0 := hS'; have hh := HH2.out.below hS'; have c0 := cell_of (i := 0) hh.blk rfl; have a0 := (hh.elem HX.out).1 0 _ rfl; have a1 := (hh.elem HX.out).1 1 _ rfl; have a2 := (hh.elem HX.out).1 2 _ rfl; have b0 := (hh.elem HY.out).1 0 _ rfl; have b1 := (hh.elem HY.out).1 1 _ rfl; have b2 := (hh.elem HY.out).1 2 _ rfl; simp only [Nat.add_zero] at a0 b0; clear hh; go_simp; with_reducible rfl) hHeld ?_
      refine pI 21 (some 39) (bs 26 4194303) ?_
      refine pI 22 (some 40) (bs 26 8388607) ?_
      refine tI 23 (some 41) (bs 26 16777215) rfl (by intro w' hS'; have s0 := hS'; have hh := HH2.out.below hS'; have c0 := cell_of (i := 0) hh.blk rfl; have a0 := (hh.elem HX.out).1 0 _ rfl; have a1 := (hh.elem HX.out).1 1 _ rfl; have a2 := (hh.elem HX.out).1 2 _ rfl; have b0 := (hh.elem HY.out).1 0 _ rfl; have b1 := (hh.elem HY.out).1 1 _ rfl; have b2 := (hh.elem HY.out).1 2 _ rfl; simp only [Nat.add_zero] at a0 b0; clear hh; go_simp; with_reducible rfl) hHeld ?_
      refine one_ (i := 24) (N := some 42) (bs 26 33554431) rfl rfl (by kernel_rfl) (by decide) (fun K hK => ?_)
      refine goes_ Tryz.func189 (by kernel_rfl) rfl #[.agg #[.int .i64 x.r, .int .i64 x.p, .int .i64 x.t], .agg #[.int .i64 y.r, .int .i64 y.p, .int .i64 y.t]] (by rfl) rfl rfl (by simp [Act.eval]) ?_
      refine (less_any x y _).mono ?_
      rintro e w10 ⟨rfl, hb⟩
      refine ⟨_, rfl, ?_⟩
      have HW10 := As.mk (bt_ HW9.out hb)
      refine hK.out _ _ HW10.out (fun _ => ?_)
      clear hK K hb HW9 hHeld
      refine nI ?_
      refine pI 25 (some 43) (bs 26 67108863) ?_
      refine done_ (by kernel_rfl) ?_
      cases hl : lessT x y with
      | false =>
       rw [hl, if_neg (by decide)] at HN2
       clear hl
       go_wp2
       go_roundg f2
       case measure => omega
       case rel => exact ⟨0 + 1, _, by rw [HN2.out], by go_num, by omega, ⟨rfl⟩, ⟨by have := HK3.out; omega⟩, ⟨bt_ HB2.out HW10.out⟩⟩
      | true =>
       rw [hl, if_pos rfl] at HN2
       clear hl
       go_wp2
       go_roundg f2
       case measure => omega
       case rel => exact ⟨0 + 1, _, by rw [HN2.out], by go_num, by omega, ⟨rfl⟩, ⟨by have := HK3.out; omega⟩, ⟨bt_ HB2.out HW10.out⟩⟩
     ·have hltI : ¬ (k1 : Int) < (l'.length : Int) := by omega
      have HN2 := As.mk (HLJ.out.trans (pick_out (by omega)))
      clear HLJ hkk
      generalize leastJ l' i 0 = m at HN2 ⊢
      go_wp2_with fail
      refine start_ (n := 26) (S := fun w' => Below W2.heap.size W2 w') (ds := []) #[false, false, false, false, false, false, false, false, false, false, false, false, false, false, false, false, false, false, false, false, false, false, false, false, false, false] (by kernel_rfl) rfl rfl (below_drew1 (Below.refl _ _)) (fun hHeld => ?_)
      have HW9 := As.mk hHeld; clear hHeld; generalize W2.drew = w9 at HW9 ⊢; have hHeld := HW9.out
      refine pI 0 (some 18) (bs 26 1) ?_
      refine pI 1 (some 19) (bs 26 3) ?_
      refine pI 2 (some 20) (bs 26 7) ?_
      refine pI 3 (some 21) (bs 26 15) ?_
      refine tI 4 (some 22) (bs 26 31) rfl (by intro w' hS'; have s0 := hS'; have hh := HH2.out.below hS'; have c0 := cell_of (i := 0) hh.blk rfl; clear hh; go_simp; with_reducible rfl) hHeld ?_
      refine pI 5 (some 23) (bs 26 63) ?_
      refine pI 6 (some 24) (bs 26 127) ?_
      refine pI 7 (some 25) (bs 26 255) ?_
      refine pO 8 (some 26) (bs 26 511) ?_
      refine pO 9 (some 27) (bs 26 1023) ?_
      refine pO 10 (some 28) (bs 26 2047) ?_
      refine pO 12 (some 30) (bs 26 6143) ?_
      refine pO 16 (some 34) (bs 26 71679) ?_
      refine pO 17 (some 35) (bs 26 202751) ?_
      refine pO 18 (some 36) (bs 26 464895) ?_
      refine pO 20 (some 38) (bs 26 1513471) ?_
      refine pO 11 (some 29) (bs 26 1515519) ?_
      refine pO 13 (some 31) (bs 26 1523711) ?_
      refine pO 14 (some 32) (bs 26 1540095) ?_
      refine pO 15 (some 33) (bs 26 1572863) ?_
      refine pO 19 (some 37) (bs 26 2097151) ?_
      refine pO 21 (some 39) (bs 26 4194303) ?_
      refine pO 22 (some 40) (bs 26 8388607) ?_
      refine pO 23 (some 41) (bs 26 16777215) ?_
      refine pO 24 (some 42) (bs 26 33554431) ?_
      refine pI 25 (some 43) (bs 26 67108863) ?_
      refine done_ (by kernel_rfl) ?_
      go_wp2
      go_roundg f2
      case measure => omega
      case rel => exact ⟨0 + 1, _, by rw [HN2.out], by go_num, by omega, ⟨rfl⟩, ⟨by have := HK3.out; omega⟩, ⟨bt_ HB2.out HW9.out⟩⟩
    ·have hkk : 2 * i + 1 + 1 = k2 := HKS.out.2
     have HLJ := As.mk (show leastJ l' i (1 + 1) = pickF l' k2 (leastJ l' i 1) by rw [← hkk]; rfl)
     have hk0 : (0 : Int) ≤ (k2 : Int) := by omega
     by_cases hlt : k2 < l'.length
     ·have hltI : (k2 : Int) < (l'.length : Int) := by omega
      have hil : i < l'.length := by omega
      have hm := leastJ_lt hil 1
      have HNX := As.mk (fun x y => pick_in (l := l') (k := k2) (m := leastJ l' i 1) (x := x) (y := y))
      generalize leastJ l' i 1 = m at hm HLJ HNX ⊢
      have hmI : (m : Int) < (l'.length : Int) := by omega
      have hm0 : (0 : Int) ≤ (m : Int) := by omega
      obtain ⟨g, cap', hform, hbg, hglt, hne, hcap, cells, hg⟩ := HH2.out.form (by omega)
      injection hform with hform _ hform3
      subst hform; subst hform3
      obtain ⟨x, hx⟩ : ∃ x, l'[k2]? = some x := ⟨_, List.getElem?_eq_getElem hlt⟩
      obtain ⟨y, hy⟩ : ∃ y, l'[m]? = some y := ⟨_, List.getElem?_eq_getElem hm⟩
      have HX := As.mk hx
      have HY := As.mk hy
      have HN2 := As.mk (HLJ.out.trans (HNX.out x y hx hy))
      clear hx hy hg HNX HLJ hkk
      go_wp2_with fail
      refine start_ (n := 26) (S := fun w' => Below W2.heap.size W2 w') (ds := []) #[false, false, false, false, false, false, false, false, false, false, false, false, false, false, false, false, false, false, false, false, false, false, false, false, false, false] (by kernel_rfl) rfl rfl (below_drew1 (Below.refl _ _)) (fun hHeld => ?_)
      have HW9 := As.mk hHeld; clear hHeld; generalize W2.drew = w9 at HW9 ⊢; have hHeld := HW9.out
      refine pI 0 (some 18) (bs 26 1) ?_
      refine pI 1 (some 19) (bs 26 3) ?_
      refine pI 2 (some 20) (bs 26 7) ?_
      refine pI 3 (some 21) (bs 26 15) ?_
      refine tI 4 (some 22) (bs 26 31) rfl (by intro w' hS'; have s0 := hS'; have hh := HH2.out.below hS'; have c0 := cell_of (i := 0) hh.blk rfl; have a0 := (hh.elem HX.out).1 0 _ rfl; have a1 := (hh.elem HX.out).1 1 _ rfl; have a2 := (hh.elem HX.out).1 2 _ rfl; have b0 := (hh.elem HY.out).1 0 _ rfl; have b1 := (hh.elem HY.out).1 1 _ rfl; have b2 := (hh.elem HY.out).1 2 _ rfl; simp only [Nat.add_zero] at a0 b0; clear hh; go_simp; with_reducible rfl) hHeld ?_
      refine pI 5 (some 23) (bs 26 63) ?_
      refine pI 6 (some 24) (bs 26 127) ?_
      refine pI 7 (some 25) (bs 26 255) ?_
      refine pI 8 (some 26) (bs 26 511) ?_
      refine pI 9 (some 27) (bs 26 1023) ?_
      refine pI 10 (some 28) (bs 26 2047) ?_
      refine pI 12 (some 30) (bs 26 6143) ?_
      refine pI 16 (some 34) (bs 26 71679) ?_
      refine pI 17 (some 35) (bs 26 202751) ?_
      refine pI 18 (some 36) (bs 26 464895) ?_
      refine pI 20 (some 38) (bs 26 1513471) ?_
      refine tI 11 (some 29) (bs 26 1515519) rfl (by intro w' hS'; have s0 := hS'; have hh := HH2.out.below hS'; have c0 := cell_of (i := 0) hh.blk rfl; have a0 := (hh.elem HX.out).1 0 _ rfl; have a1 := (hh.elem HX.out).1 1 _ rfl; have a2 := (hh.elem HX.out).1 2 _ rfl; have b0 := (hh.elem HY.out).1 0 _ rfl; have b1 := (hh.elem HY.out).1 1 _ rfl; have b2 := (hh.elem HY.out).1 2 _ rfl; simp only [Nat.add_zero] at a0 b0; clear hh; go_simp; with_reducible rfl) hHeld ?_
      refine pI 13 (some 31) (bs 26 1523711) ?_
      refine pI 14 (some 32) (bs 26 1540095) ?_
      refine tI 15 (some 33) (bs 26 1572863) rfl (by intro w' hS'; have s0 := hS'; have hh := HH2.out.below hS'; have c0 := cell_of (i := 0) hh.blk rfl; have a0 := (hh.elem HX.out).1 0 _ rfl; have a1 := (hh.elem HX.out).1 1 _ rfl; have a2 := (hh.elem HX.out).1 2 _ rfl; have b0 := (hh.elem HY.out).1 0 _ rfl; have b1 := (hh.elem HY.out).1 1 _ rfl; have b2 := (hh.elem HY.out).1 2 _ rfl; simp only [Nat.add_zero] at a0 b0; clear hh; go_simp; with_reducible rfl) hHeld ?_
      refine tI 19 (some 37) (bs 26 2097151) rfl (by intro w' hS'; have s0 := hS'; have hh := HH2.out.below hS'; have c0 := cell_of (i := 0) hh.blk rfl; have a0 := (hh.elem HX.out).1 0 _ rfl; have a1 := (hh.elem HX.out).1 1 _ rfl; have a2 := (hh.elem HX.out).1 2 _ rfl; have b0 := (hh.elem HY.out).1 0 _ rfl; have b1 := (hh.elem HY.out).1 1 _ rfl; have b2 := (hh.elem HY.out).1 2 _ rfl; simp only [Nat.add_zero] at a0 b0; clear hh; go_simp; with_reducible rfl) hHeld ?_
      refine pI 21 (some 39) (bs 26 4194303) ?_
      refine pI 22 (some 40) (bs 26 8388607) ?_
      refine tI 23 (some 41) (bs 26 16777215) rfl (by intro w' hS'; have s0 := hS'; have hh := HH2.out.below hS'; have c0 := cell_of (i := 0) hh.blk rfl; have a0 := (hh.elem HX.out).1 0 _ rfl; have a1 := (hh.elem HX.out).1 1 _ rfl; have a2 := (hh.elem HX.out).1 2 _ rfl; have b0 := (hh.elem HY.out).1 0 _ rfl; have b1 := (hh.elem HY.out).1 1 _ rfl; have b2 := (hh.elem HY.out).1 2 _ rfl; simp only [Nat.add_zero] at a0 b0; clear hh; go_simp; with_reducible rfl) hHeld ?_
      refine one_ (i := 24) (N := some 42) (bs 26 33554431) rfl rfl (by kernel_rfl) (by decide) (fun K hK => ?_)
      refine goes_ Tryz.func189 (by kernel_rfl) rfl #[.agg #[.int .i64 x.r, .int .i64 x.p, .int .i64 x.t], .agg #[.int .i64 y.r, .int .i64 y.p, .int .i64 y.t]] (by rfl) rfl rfl (by simp [Act.eval]) ?_
      refine (less_any x y _).mono ?_
      rintro e w10 ⟨rfl, hb⟩
      refine ⟨_, rfl, ?_⟩
      have HW10 := As.mk (bt_ HW9.out hb)
      refine hK.out _ _ HW10.out (fun _ => ?_)
      clear hK K hb HW9 hHeld
      refine nI ?_
      refine pI 25 (some 43) (bs 26 67108863) ?_
      refine done_ (by kernel_rfl) ?_
      cases hl : lessT x y with
      | false =>
       rw [hl, if_neg (by decide)] at HN2
       clear hl
       go_wp2
       go_roundg f2
       case measure => omega
       case rel => exact ⟨1 + 1, _, by rw [HN2.out], by go_num, by omega, ⟨rfl⟩, ⟨by have := HK3.out; omega⟩, ⟨bt_ HB2.out HW10.out⟩⟩
      | true =>
       rw [hl, if_pos rfl] at HN2
       clear hl
       go_wp2
       go_roundg f2
       case measure => omega
       case rel => exact ⟨1 + 1, _, by rw [HN2.out], by go_num, by omega, ⟨rfl⟩, ⟨by have := HK3.out; omega⟩, ⟨bt_ HB2.out HW10.out⟩⟩
     ·have hltI : ¬ (k2 : Int) < (l'.length : Int) := by omega
      have HN2 := As.mk (HLJ.out.trans (pick_out (by omega)))
      clear HLJ hkk
      generalize leastJ l' i 1 = m at HN2 ⊢
      go_wp2_with fail
      refine start_ (n := 26) (S := fun w' => Below W2.heap.size W2 w') (ds := []) #[false, false, false, false, false, false, false, false, false, false, false, false, false, false, false, false, false, false, false, false, false, false, false, false, false, false] (by kernel_rfl) rfl rfl (below_drew1 (Below.refl _ _)) (fun hHeld => ?_)
      have HW9 := As.mk hHeld; clear hHeld; generalize W2.drew = w9 at HW9 ⊢; have hHeld := HW9.out
      refine pI 0 (some 18) (bs 26 1) ?_
      refine pI 1 (some 19) (bs 26 3) ?_
      refine pI 2 (some 20) (bs 26 7) ?_
      refine pI 3 (some 21) (bs 26 15) ?_
      refine tI 4 (some 22) (bs 26 31) rfl (by intro w' hS'; have s0 := hS'; have hh := HH2.out.below hS'; have c0 := cell_of (i := 0) hh.blk rfl; clear hh; go_simp; with_reducible rfl) hHeld ?_
      refine pI 5 (some 23) (bs 26 63) ?_
      refine pI 6 (some 24) (bs 26 127) ?_
      refine pI 7 (some 25) (bs 26 255) ?_
      refine pO 8 (some 26) (bs 26 511) ?_
      refine pO 9 (some 27) (bs 26 1023) ?_
      refine pO 10 (some 28) (bs 26 2047) ?_
      refine pO 12 (some 30) (bs 26 6143) ?_
      refine pO 16 (some 34) (bs 26 71679) ?_
      refine pO 17 (some 35) (bs 26 202751) ?_
      refine pO 18 (some 36) (bs 26 464895) ?_
      refine pO 20 (some 38) (bs 26 1513471) ?_
      refine pO 11 (some 29) (bs 26 1515519) ?_
      refine pO 13 (some 31) (bs 26 1523711) ?_
      refine pO 14 (some 32) (bs 26 1540095) ?_
      refine pO 15 (some 33) (bs 26 1572863) ?_
      refine pO 19 (some 37) (bs 26 2097151) ?_
      refine pO 21 (some 39) (bs 26 4194303) ?_
      refine pO 22 (some 40) (bs 26 8388607) ?_
      refine pO 23 (some 41) (bs 26 16777215) ?_
      refine pO 24 (some 42) (bs 26 33554431) ?_
      refine pI 25 (some 43) (bs 26 67108863) ?_
      refine done_ (by kernel_rfl) ?_
      go_wp2
      go_roundg f2
      case measure => omega
      case rel => exact ⟨1 + 1, _, by rw [HN2.out], by go_num, by omega, ⟨rfl⟩, ⟨by have := HK3.out; omega⟩, ⟨bt_ HB2.out HW9.out⟩⟩
end Go.Proofs.YtkffhgiiejbnaaaGreat.Hq
