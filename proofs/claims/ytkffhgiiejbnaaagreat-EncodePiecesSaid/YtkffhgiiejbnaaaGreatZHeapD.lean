import Derived.Test.YtkffhgiiejbnaaaGreatZHeapC
set_option maxRecDepth 100000
set_option maxHeartbeats 400000
set_option linter.unusedVariables false
set_option linter.unusedSimpArgs false
namespace Go.Proofs.YtkffhgiiejbnaaaGreat.Hq
open Go.RowKit YtkffhgiiejbnaaaGreatW.PrintWords YtkffhgiiejbnaaaGreatW.PrintLast YtkffhgiiejbnaaaGreatW.PrintMore Aid Mp Hp
theorem up_next {l : List (Th Wx)} {k m : Nat} {x y : Th Wx} (hm : m = (k - 1) / 2) (hk0 : 0 < k) (hk : k < l.length) (h : UpInv l k) (hx : l[k]? = some x) (hy : l[m]? = some y) (hl : lessT x y = true) : UpInv (swapL l k m) m := by
 subst hm
 refine up_step h hk hk0 (fun a b ha hb => ?_)
 rw [hx] at ha; rw [hy] at hb
 injection ha with ha; injection hb with hb; subst ha; subst hb
 exact Le.of_less hl
theorem up_stop {l : List (Th Wx)} {k m : Nat} {x y : Th Wx} (hm : m = (k - 1) / 2) (h : UpInv l k) (hx : l[k]? = some x) (hy : l[m]? = some y) (hl : lessT x y = false) : Heap l := by
 subst hm
 refine up_done h (.inr (fun a b ha hb => ?_))
 rw [hy] at ha; rw [hx] at hb
 injection ha with ha; injection hb with hb; subst ha; subst hb
 exact hl
structure Sifted (w w' : World) (base h : Nat) (v : Value) (n : Int) (l : List (Th Wx)) : Prop where
 mk :: (out : ∃ l', HpAt w' base h v n l' ∧ l'.Perm l ∧ Heap l') (below : Below base w w') (kept : HK h w w')
theorem up_any {w : World} {base h : Nat} {v : Value} {n : Int} {l : List (Th Wx)} (H : HpAt w base h v n l) (k : Nat) (hk : k < l.length) (hu : UpInv l k) :
  Calls Tryz.prog 187 #[.pointer (some ⟨h, 0, none⟩), .int .i64 (k : Int)] w fun e w' => e = .returned (.tuple #[]) ∧ Sifted w w' base h v n l := by
 have HL := As.mk hk
 have H0 := As.mk H
 have U0 := As.mk hu
 clear H hu hk
 go_enter Tryz.func187, Tryz.ntmps187
 go_wp2_with fail
 go_loopg [1] k (fun f v1 w' => ∃ (i : Nat) (l' : List (Th Wx)) (W : World), v1 = .int .i64 (i : Int) ∧ As (W = w') ∧ As (i < l'.length ∧ l'.length = l.length) ∧ As (HpAt W base h v n l') ∧ As (l'.Perm l) ∧ As (UpInv l' i) ∧ As (i ≤ f) ∧ As (Below base w W) ∧ As (HK h w W))
 case atStart => exact ⟨k, l, w, rfl, ⟨rfl⟩, ⟨HL.out, rfl⟩, H0, ⟨List.Perm.refl _⟩, U0, ⟨Nat.le_refl _⟩, ⟨Below.refl _ _⟩, ⟨HK.refl _ _⟩⟩
 case round =>
  clear H0 U0
  obtain ⟨i, l', W, rfl, HW, HI, HH, HP, HU, HK1, HB, HKK⟩ := hrel
  have hW := HW.out
  subst hW
  clear HW
  by_cases h0 : i = 0
  ·subst h0
   have hz : ((0 : Nat) : Int) = 0 := rfl
   have hn : ¬ (0 : Int) < ((0 : Nat) : Int) := by omega
   go_wp2
   go_end0
   exact ⟨rfl, ⟨l', HH.out, HP.out, up_done HU.out (.inl rfl)⟩, HB.out, HKK.out⟩
  ·obtain ⟨m, hm⟩ : ∃ m, m = (i - 1) / 2 := ⟨_, rfl⟩
   have hmI : ((i : Int) - 1) / 2 = (m : Int) := by omega
   have hi0 : (0 : Int) < (i : Int) := by omega
   have hi1 : (0 : Int) ≤ (i : Int) - 1 := by omega
   have hi2 : (1 : Int) ≤ (i : Int) := by omega
   have hmi : m < i := by omega
   have HM := As.mk hm
   obtain ⟨g, cap, rfl, hbg, hlt, hne, hcap, cells, hg⟩ := HH.out.form (by have := HI.out.1; omega)
   obtain ⟨x, hx⟩ : ∃ x, l'[i]? = some x := ⟨_, List.getElem?_eq_getElem HI.out.1⟩
   obtain ⟨y, hy⟩ : ∃ y, l'[m]? = some y := ⟨_, List.getElem?_eq_getElem (by have := HI.out.1; omega)⟩
   have HX := As.mk hx
   have HY := As.mk hy
   have hiI : (i : Int) < (l'.length : Int) := by have := HI.out.1; omega
   have hmL : (m : Int) < (l'.length : Int) := by omega
   have hm0 : (0 : Int) ≤ (m : Int) := by omega
   obtain ⟨f, rfl⟩ : ∃ f, gk = f + 1 := ⟨gk - 1, by have := HK1.out; omega⟩
   have hbig : (i : Int) ≤ 9223372036854775807 := by
    have h1 := (Kd.R_reads' HH.out.rows).2.2
    have := h1.2.1
    omega
   clear hx hy hg hm h0
   go_wp2_with fail
   refine start_ (n := 18) (S := fun w' => Below W.heap.size W w') (ds := []) #[false, false, false, false, false, false, false, false, false, false, false, false, false, false, false, false, false, false] (by kernel_rfl) rfl rfl (below_drew1 (Below.refl _ _)) (fun hHeld => ?_)
   have HW9 := As.mk hHeld; clear hHeld; generalize W.drew = w9 at HW9 ⊢; have hHeld := HW9.out
   refine pI 0 (some 10) (bs 18 1) ?_
   refine pI 1 (some 11) (bs 18 3) ?_
   refine pI 2 (some 12) (bs 18 7) ?_
   refine pI 4 (some 14) (bs 18 23) ?_
   refine pI 8 (some 18) (bs 18 279) ?_
   refine pI 9 (some 19) (bs 18 791) ?_
   refine pI 10 (some 20) (bs 18 1815) ?_
   refine pI 12 (some 22) (bs 18 5911) ?_
   refine tI 3 (some 13) (bs 18 5919) rfl (by intro w' hS'; have s0 := hS'; have hh := HH.out.below hS'; have c0 := cell_of (i := 0) hh.blk rfl; have a0 := (hh.elem HX.out).1 0 _ rfl; have a1 := (hh.elem HX.out).1 1 _ rfl; have a2 := (hh.elem HX.out).1 2 _ rfl; have b0 := (hh.elem HY.out).1 0 _ rfl; have b1 := (hh.elem HY.out).1 1 _ rfl; have b2 := (hh.elem HY.out).1 2 _ rfl; simp only [Nat.add_zero] at a0 b0; clear hh; go_simp; with_reducible rfl) hHeld ?_
   refine pI 5 (some 15) (bs 18 5951) ?_
   refine pI 6 (some 16) (bs 18 6015) ?_
   refine tI 7 (some 17) (bs 18 6143) rfl (by intro w' hS'; have s0 := hS'; have hh := HH.out.below hS'; have c0 := cell_of (i := 0) hh.blk rfl; have a0 := (hh.elem HX.out).1 0 _ rfl; have a1 := (hh.elem HX.out).1 1 _ rfl; have a2 := (hh.elem HX.out).1 2 _ rfl; have b0 := (hh.elem HY.out).1 0 _ rfl; have b1 := (hh.elem HY.out).1 1 _ rfl; have b2 := (hh.elem HY.out).1 2 _ rfl; simp only [Nat.add_zero] at a0 b0; clear hh; go_simp; with_reducible rfl) hHeld ?_
   refine tI 11 (some 21) (bs 18 8191) rfl (by intro w' hS'; have s0 := hS'; have hh := HH.out.below hS'; have c0 := cell_of (i := 0) hh.blk rfl; have a0 := (hh.elem HX.out).1 0 _ rfl; have a1 := (hh.elem HX.out).1 1 _ rfl; have a2 := (hh.elem HX.out).1 2 _ rfl; have b0 := (hh.elem HY.out).1 0 _ rfl; have b1 := (hh.elem HY.out).1 1 _ rfl; have b2 := (hh.elem HY.out).1 2 _ rfl; simp only [Nat.add_zero] at a0 b0; clear hh; go_simp; with_reducible rfl) hHeld ?_
   refine pI 13 (some 23) (bs 18 16383) ?_
   refine pI 14 (some 24) (bs 18 32767) ?_
   refine tI 15 (some 25) (bs 18 65535) rfl (by intro w' hS'; have s0 := hS'; have hh := HH.out.below hS'; have c0 := cell_of (i := 0) hh.blk rfl; have a0 := (hh.elem HX.out).1 0 _ rfl; have a1 := (hh.elem HX.out).1 1 _ rfl; have a2 := (hh.elem HX.out).1 2 _ rfl; have b0 := (hh.elem HY.out).1 0 _ rfl; have b1 := (hh.elem HY.out).1 1 _ rfl; have b2 := (hh.elem HY.out).1 2 _ rfl; simp only [Nat.add_zero] at a0 b0; clear hh; go_simp; with_reducible rfl) hHeld ?_
   refine one_ (i := 16) (N := some 26) (bs 18 131071) rfl rfl (by kernel_rfl) (by decide) (fun K hK => ?_)
   refine goes_ Tryz.func189 (by kernel_rfl) rfl #[.agg #[.int .i64 x.r, .int .i64 x.p, .int .i64 x.t], .agg #[.int .i64 y.r, .int .i64 y.p, .int .i64 y.t]] (by rfl) rfl rfl (by simp [Act.eval]) ?_
   refine (less_any x y _).mono ?_
   rintro e w10 ⟨rfl, hb⟩
   refine ⟨_, rfl, ?_⟩
   have HW10 := As.mk (bt_ HW9.out hb)
   refine hK.out _ _ HW10.out (fun _ => ?_)
   clear hK K hb HW9 hHeld
   refine nI ?_
   refine pI 17 (some 27) (bs 18 262143) ?_
   refine done_ (by kernel_rfl) ?_
   have HH2 := As.mk (HH.out.below HW10.out)
   have HB2 := As.mk (HB.out.trans (HW10.out.mono (Nat.le_trans HH.out.le (Nat.le_of_lt HH.out.lt))))
   have HK2 := As.mk (HKK.out.trans (HK.of_below HW10.out))
   clear HH HB HKK HW10
   cases hl : lessT x y with
   | false =>
    have HS := As.mk (up_stop HM.out HU.out HX.out HY.out hl)
    clear hl
    go_wp2
    refine bodyPost_ret (results_none rfl _ _ _) rfl ?_
    exact ⟨rfl, ⟨l', HH2.out, HP.out, HS.out⟩, HB2.out, HK2.out⟩
   | true =>
    have HS := As.mk (up_next HM.out (by omega) HI.out.1 HU.out HX.out HY.out hl)
    have HSW := As.mk (swap_any HH2.out i m HI.out.1 (by have := HI.out.1; omega))
    have HLN := As.mk (swap_len l' i m)
    have HPM := As.mk (swap_perm (l := l') (i := i) (k := m))
    clear hl HU
    generalize swapL l' i m = l2 at *
    go_wp2_with (go_at_call 185; refine HSW.out.mono ?_; rintro e w11 ⟨rfl, hh, hb, hkk⟩; have HH3 := As.mk hh; have HB3 := As.mk (HB2.out.trans hb); have HK3 := As.mk (HK2.out.trans hkk); clear hh hb hkk HSW)
    go_roundg f
    case measure => omega
    case rel => exact ⟨m, l2, _, rfl, ⟨rfl⟩, ⟨by rw [HLN.out]; have := HI.out.1; omega, HLN.out.trans HI.out.2⟩, ⟨by have h := HH3.out; rw [← HLN.out] at h; first | exact h | exact HH3.out⟩, ⟨HPM.out.trans HP.out⟩, HS, ⟨by have := HK1.out; omega⟩, HB3, HK3⟩
end Go.Proofs.YtkffhgiiejbnaaaGreat.Hq
