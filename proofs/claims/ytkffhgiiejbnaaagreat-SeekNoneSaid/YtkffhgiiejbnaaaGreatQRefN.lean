import Derived.Test.YtkffhgiiejbnaaaGreatQRefB
import Derived.Test.YtkffhgiiejbnaaaGreatQ01
import Derived.Test.YtkffhgiiejbnaaaGreatQ02
import Derived.Test.YtkffhgiiejbnaaaGreatQSpecA
set_option maxRecDepth 100000
set_option maxHeartbeats 2000000
set_option linter.unusedVariables false
set_option linter.unusedSimpArgs false
set_option linter.unnecessarySimpa false
namespace Go.Proofs.YtkffhgiiejbnaaaGreat.Rt
open Go.RowKit YtkffhgiiejbnaaaGreatW.PrintWords YtkffhgiiejbnaaaGreatW.PrintLast YtkffhgiiejbnaaaGreatW.PrintMore Rf Aid Mp Hp Tk
theorem bL_byteL : ∀ (d k i : Nat), 256 - i = d → d < k → i ≤ 256 → ligatureref04_Begin.l0 k (i : Int) (bL (byteL i)) = some (bL (byteL 256), [])
 | 0, k, i, h0, h1, h2 => by
  obtain ⟨k, rfl⟩ : ∃ m, k = m + 1 := ⟨k - 1, by omega⟩
  obtain rfl : i = 256 := by omega
  simp only [ligatureref04_Begin.l0]
  rw [if_neg (by decide)]
 | d + 1, k, i, h0, h1, h2 => by
  obtain ⟨k, rfl⟩ : ∃ m, k = m + 1 := ⟨k - 1, by omega⟩
  simp only [ligatureref04_Begin.l0]
  rw [if_pos (by omega), if_pos (by rw [bL_len, byteL_len]; omega), w64 (by omega) (by omega), show ((i : Int) + 1) = ((i + 1 : Nat) : Int) from by omega]
  rw [show bL (byteL i) ++ [strOfNums ([((i : Int)) % 256] : List Int)] = bL (byteL (i + 1)) from by
   rw [byteL_succ, bL_snoc]; congr 1; congr 1; simp only [strOfNums, byteE, List.map_cons, List.map_nil]; congr 1; rw [show ((i : Int) % 256).toNat = i from by omega]]
  exact bL_byteL d k (i + 1) (by omega) (by omega) (by omega)
theorem begin_ref (w : World) : Calls Tryz.prog 124 #[] w fun e w' => ∃ A B c d, e = .returned (rV A B c d (byteL 256)) ∧ ROwn w' w.heap.size A B c d (byteL 256) ∧ Below w.heap.size w w' := by
 refine (ligatureref04_Begin.calls 257 (bL (byteL 256)) [] w (bL_byteL 256 257 0 (by omega) (by omega) (by omega))).mono ?_
 rintro e w' ⟨v0, v1, rfl, h0, h1, hb⟩
 obtain ⟨A, c, rfl⟩ := Kd.R_slice h0
 obtain ⟨B, d, rfl⟩ := Kd.R_slice h1
 have hm : mL (byteL 256) = [] := by unfold mL; rw [List.drop_eq_nil_of_le (by rw [byteL_len]; omega)]; rfl
 exact ⟨A, B, c, d, by unfold rV; rw [hm], ⟨h0, by rw [hm]; exact h1⟩, hb⟩
def toI (E : List Ent) (x : Int) : Int := if x % ((E.length : Int) + ((E.length : Int) - 256)) < E.length then x % ((E.length : Int) + ((E.length : Int) - 256)) else 256 + x % ((E.length : Int) + ((E.length : Int) - 256)) - E.length
def growL : List Int → List Ent → List Ent
 | x :: y :: l, E => growL l (more E (toI E x) (toI E y))
 | _, E => E
theorem more_good {E : List Ent} (h : Tk.Good E) (a b : Int) : Tk.Good (more E a b) := by
 unfold more
 split
 ·rename_i hc; exact h.add hc
 ·exact h
theorem grow_any (A : Option Addr) (c : Nat) (l : List Int) (w : World) (hr : Kd.C (Kd.int .u16) w A l.length l) (hx : ∀ x ∈ l, 0 ≤ x ∧ x ≤ 65535) :
  Calls Tryz.prog 87 #[.slice A l.length c] w fun e w' => ∃ A2 B2 c2 d2, e = .returned (rV A2 B2 c2 d2 (growL (l.take 60) (byteL 256))) ∧ ROwn w' w.heap.size A2 B2 c2 d2 (growL (l.take 60) (byteL 256)) ∧ Tk.Good (growL (l.take 60) (byteL 256)) ∧ Below w.heap.size w w' := by
 have HR := As.mk hr
 have HX := As.mk hx
 have HLL := As.mk hr.2.1
 clear hr hx
 obtain ⟨R, hR⟩ : ∃ R, growL (l.take 60) (byteL 256) = R := ⟨_, rfl⟩
 have HF0 := As.mk (show growL ((l.take 60).drop 0) (byteL 256) = R from hR)
 rw [hR]
 clear hR
 have hz : ∀ w, (zeroValue 34).run Tryz.prog w = .ok (.agg #[.slice none 0 0, .slice none 0 0]) w := fun w => by kernel_rfl
 go_enter Tryz.func87, Tryz.ntmps87
 go_wp2_with (go_at_call 124; refine (begin_ref _).mono ?_; rintro e w1 ⟨A1, B1, c1, d1, rfl, ho, hb⟩; have HO1 := As.mk ho; have HB1 := As.mk (bt_ (below_alloc (Below.refl _ _) _) hb); have HY1 := As.mk ((hb.block _ (blk_lt (Go.MapKept.heap_alloc w _).1)).trans (Go.MapKept.heap_alloc w (.cells #[.slice none 0 0, .slice none 0 0] 34)).1); clear ho hb; unfold rV)
 have HO2 := As.mk ((HO1.out.below (below_alloc (Below.refl _ _) (.cells #[.slice A1 (bL (byteL 256)).length c1, .slice B1 (mL (byteL 256)).length d1] 34))).lower (by simp : w.heap.size ≤ _))
 have HB2 := As.mk (below_alloc HB1.out (.cells #[.slice A1 (bL (byteL 256)).length c1, .slice B1 (mL (byteL 256)).length d1] 34))
 have HK1 := As.mk (Go.MapKept.heap_alloc w1 (.cells #[.slice A1 (bL (byteL 256)).length c1, .slice B1 (mL (byteL 256)).length d1] 34)).1
 have HLO := As.mk HB1.out.size
 have HNE := As.mk (Nat.ne_of_lt (blk_lt HY1.out))
 have HY2 := As.mk (((below_alloc (Below.refl w1.heap.size w1) (.cells #[.slice A1 (bL (byteL 256)).length c1, .slice B1 (mL (byteL 256)).length d1] 34)).block _ (blk_lt HY1.out)).trans HY1.out)
 clear HO1
 go_loopg [4] 30 (fun k v4 w' => ∃ (i : Nat) (E : List Ent) (A2 B2 : Option Addr) (c2 d2 : Nat), v4 = .int .i64 i ∧ i ≤ 60 ∧ As (w'.heap[w1.heap.size]? = some (.cells #[.slice A2 (bL E).length c2, .slice B2 (mL E).length d2] 34 (0, 0))) ∧ As (ROwn w' w.heap.size A2 B2 c2 d2 E) ∧ As (w'.heap[w.heap.size]? = some (.cells #[.slice none 0 0, .slice none 0 0] 34 (0, 0))) ∧ As (Tk.Good E) ∧ As (growL ((l.take 60).drop i) E = R) ∧ As (60 ≤ i + 2 * k ∧ i % 2 = 0) ∧ As (Below w.heap.size w w'))
 case atStart => exact ⟨0, byteL 256, A1, B1, c1, d1, rfl, by omega, HK1, HO2, HY2, ⟨Good.begin_⟩, HF0, ⟨by omega, rfl⟩, HB2⟩
 case round =>
  clear HF0 HO2 HB2 HK1 HY2 HY1
  obtain ⟨i, E, A2, B2, c2, d2, rfl, hi, HK, HO, HY, HG, HF, HM, HB⟩ := hrel
  by_cases hlt : i + 1 < l.length ∧ i < 60
  ·obtain ⟨k1, rfl⟩ : ∃ k1, gk = k1 + 1 := ⟨gk - 1, by have := HM.out; omega⟩
   have hltI : (i : Int) + 1 < l.length := by omega
   have hlt6 : (i : Int) < 60 := by omega
   have hi1 : i < l.length := by omega
   have hi2 : i + 1 < l.length := hlt.1
   have hpar := HM.out.2
   obtain ⟨ad, rfl, x0⟩ := Kd.at_int (Kd.C_below HR.out HB.out) (i : Int) (by omega) (by omega)
   obtain ⟨ad', e', y0⟩ := Kd.at_int (Kd.C_below HR.out HB.out) ((i : Int) + 1) (by omega) (by omega)
   injection e' with e'
   subst e'
   rw [show (i : Int) + 1 = ((i + 1 : Nat) : Int) from by omega, Int.toNat_natCast, rdI hi2] at y0
   rw [Int.toNat_natCast, rdI hi1] at x0
   have hX := HX.out _ (List.getElem_mem hi1)
   have hY := HX.out _ (List.getElem_mem hi2)
   have HF' := As.mk (show growL (l[i] :: l[i + 1] :: (l.take 60).drop (i + 2)) E = R from by
    have e1 : (l.take 60).drop i = l[i] :: l[i + 1] :: (l.take 60).drop (i + 2) := by
     have h1 : i < (l.take 60).length := by rw [List.length_take]; omega
     have h2 : i + 1 < (l.take 60).length := by rw [List.length_take]; omega
     rw [List.drop_eq_getElem_cons h1, List.drop_eq_getElem_cons h2, List.getElem_take, List.getElem_take]
    rw [← e1]; exact HF.out)
   clear HF
   generalize l[i] = x at *
   generalize l[i + 1] = y at *
   have hE := HG.out.many
   have hml : (mL E).length = E.length - 256 := by unfold mL; rw [List.length_map, List.length_drop]
   have hbl := bL_len E
   obtain ⟨N, hN⟩ : ∃ N : Int, N = ((bL E).length : Int) + ((mL E).length : Int) := ⟨_, rfl⟩
   have hN1 : IntKind.i64.wrap (((bL E).length : Int) + ((mL E).length : Int)) = N := by rw [hN]; exact IntWalk.i64_in _ (by rw [hbl, hml]; omega)
   have hNp : 0 < N := by rw [hN, hbl, hml]; omega
   have hN0 : N ≠ 0 := by omega
   have hNB : N ≤ 2000 := by rw [hN, hbl, hml]; omega
   have hxN : x.tmod N = x % N := Int.tmod_eq_emod_of_nonneg hX.1
   have hyN : y.tmod N = y % N := Int.tmod_eq_emod_of_nonneg hY.1
   have hx1 := Int.emod_nonneg x hN0
   have hy1 := Int.emod_nonneg y hN0
   have hx2 := Int.emod_lt_of_pos x hNp
   have hy2 := Int.emod_lt_of_pos y hNp
   have HT := As.mk (show growL ((l.take 60).drop (i + 2)) (more E (if x % N < (bL E).length then x % N else 256 + x % N - (bL E).length) (if y % N < (bL E).length then y % N else 256 + y % N - (bL E).length)) = R from by
    have h := HF'.out
    have e1 : ((E.length : Int) + ((E.length : Int) - 256)) = N := by rw [hN, hbl, hml]; omega
    unfold growL toI at h
    rw [e1] at h
    rw [hbl]
    exact h)
   have d0 := cell_of (i := 0) HK.out rfl
   have d1 := cell_of (i := 1) HK.out rfl
   have HNN := As.mk hN
   clear HF' hN hml
   generalize x % N = xn at *
   generalize y % N = yn at *
   have hLb : ((bL E).length : Int) ≤ 1000 := by rw [hbl]; omega
   have hLm : ((mL E).length : Int) ≤ 1000 := by have := mL_le E; omega
   have HBL := As.mk hbl
   clear hbl hE
   have HLA := As.mk HLL.out
   have hii : IntKind.i64.wrap ((i : Int) + 1) = (i : Int) + 1 := IntWalk.i64_in _ (by omega)
   have hij : 0 ≤ (i : Int) + 1 := by omega
   have hik : ((i : Int) + 1).toNat = i + 1 := by omega
   have hxw : IntKind.i64.wrap x = x := IntWalk.i64_in _ (by omega)
   have hyw : IntKind.i64.wrap y = y := IntWalk.i64_in _ (by omega)
   have y1 : wr.cell? ⟨ad.block, ad.off + (i + 1), none⟩ = some (.int .u16 y) := y0
   go_wp2_with fail
   go_quiet (fail)
   have hq := pw_below_drewN (Below.refl wr.heap.size wr) nq
   have HK2 := As.mk ((hq.block _ (blk_lt HK.out)).trans HK.out)
   have HO2 := As.mk (HO.out.below hq)
   have HY2 := As.mk ((hq.block _ (blk_lt HY.out)).trans HY.out)
   have HB2 := As.mk (bt_ HB.out hq)
   clear hq HK HO HY HB d0 d1 x0 y0 y1
   generalize wr.drewN nq = w3 at HK2 HO2 HY2 HB2 ⊢
   have d0 := cell_of (i := 0) HK2.out rfl
   have d1 := cell_of (i := 1) HK2.out rfl
   clear hxN hyN hN1 hii hij hik hxw hyw HX HR hX hY
   obtain ⟨a, ha⟩ : ∃ a, a = if xn < ((bL E).length : Int) then xn else 256 + xn - ((bL E).length : Int) := ⟨_, rfl⟩
   obtain ⟨b, hb⟩ : ∃ b, b = if yn < ((bL E).length : Int) then yn else 256 + yn - ((bL E).length : Int) := ⟨_, rfl⟩
   rw [← ha, ← hb] at HT
   have HA := As.mk (fun (W : World) (h : Below w3.heap.size w3 W) => radd_any (HO2.out.below h) HG.out (Nat.le_trans HB2.out.size h.size) a b)
   obtain ⟨E2, hE2⟩ : ∃ E2, E2 = more E a b := ⟨_, rfl⟩
   rw [← hE2] at HT HA
   have HG2 := As.mk (show Tk.Good E2 from hE2 ▸ more_good HG.out a b)
   have hE2' : addC E a b ≠ 0 → E2 = E := fun h => by rw [hE2]; unfold more; rw [if_neg h]
   have HE2 := As.mk hE2'
   clear hE2 hE2'
   obtain ⟨q, hq⟩ : ∃ q, q = addC E a b := ⟨_, rfl⟩
   rw [← hq] at HA HE2
   clear hq
   have hqq : q = 0 ∨ q ≠ 0 := by omega
   unfold rV at HA
   by_cases hca : xn < ((bL E).length : Int) <;> by_cases hcb : yn < ((bL E).length : Int)
   all_goals first | rw [if_pos hca] at ha | rw [if_neg hca] at ha
   all_goals first | rw [if_pos hcb] at hb | rw [if_neg hcb] at hb
   all_goals subst ha
   all_goals subst hb
   all_goals rcases hqq with rfl | hqq
   all_goals try have hq0 : (q == 0) = false := by simpa using hqq
   all_goals try have HQQ := As.mk hqq
   all_goals try clear hqq
   all_goals
    go_wp2_with (go_at_call 125; refine (HA.out _ (Below.refl _ _)).mono ?_; rintro e w4 ⟨A4, B4, c4, d4, rfl, ho, hb⟩; have HO4 := As.mk ho; have HK4 := As.mk ((hb.block _ (blk_lt HK2.out)).trans HK2.out); have HY4 := As.mk ((hb.block _ (blk_lt HY2.out)).trans HY2.out); have HB4 := As.mk (bt_ HB2.out hb); have HO5 := As.mk (HO2.out.below hb); clear ho hb HK2 HO2 HY2 HB2 HA d0 d1; have hba := below_alloc (Below.refl w4.heap.size w4) (.cells #[.slice A4 (bL E2).length c4, .slice B4 (mL E2).length d4] 34); have HK5 := As.mk ((hba.block _ (blk_lt HK4.out)).trans HK4.out); have HY5 := As.mk ((hba.block _ (blk_lt HY4.out)).trans HY4.out); have HO6 := As.mk (HO4.out.below hba); have HO7 := As.mk (HO5.out.below hba); have HB5 := As.mk (bt_ HB4.out hba); clear hba HO4 HO5 HB4 HY4 HK4; have d0 := cell_of (i := 0) HK5.out rfl; have d1 := cell_of (i := 1) HK5.out rfl; have z0 := frozen_of HK5.out 0; have z1 := frozen_of HK5.out 1)
    go_roundg k1
   all_goals first
    | (show _ < _; omega)
    | exact ⟨i + 2, E2, A4, B4, c4, d4, by go_num, by omega, ⟨blk_set (blk_set HK5.out 0 _) 1 _⟩, ⟨(HO6.out.set HK5.out 0 _).set (blk_set HK5.out 0 _) 1 _⟩, ⟨blk_far (blk_far HY5.out (p := ⟨w1.heap.size, 0, none⟩) HNE.out _) (p := ⟨w1.heap.size, 1, none⟩) HNE.out _⟩, HG2, HT, ⟨by have := HM.out; omega, by have := HM.out; omega⟩, ⟨(HB5.out.setCell (p := ⟨w1.heap.size, 0, none⟩) HLO.out _).setCell (p := ⟨w1.heap.size, 1, none⟩) HLO.out _⟩⟩
    | exact ⟨i + 2, E, A2, B2, c2, d2, by go_num, by omega, HK5, HO7, HY5, HG, ⟨by have h := HT.out; rw [HE2.out HQQ.out] at h; exact h⟩, ⟨by have := HM.out; omega, by have := HM.out; omega⟩, HB5⟩
  ·have hlen : ((l.take 60).drop i).length ≤ 1 := by
    rw [List.length_drop, List.length_take]
    omega
   have hR : E = R := by
    have h := HF.out
    match hq : (l.take 60).drop i, hlen with
    | [], _ => rw [hq] at h; exact h
    | [x], _ => rw [hq] at h; exact h
   subst hR
   have HN := As.mk hlt
   have hcase : ¬ ((i : Int) + 1 < l.length) ∨ ((i : Int) + 1 < l.length ∧ ¬ ((i : Int) < 60)) := by omega
   have d0 := cell_of (i := 0) HK.out rfl
   have d1 := cell_of (i := 1) HK.out rfl
   have f0 := cell_of (i := 0) HY.out rfl
   have f1 := cell_of (i := 1) HY.out rfl
   have z0 := frozen_of HY.out 0
   have z1 := frozen_of HY.out 1
   have hli : (l.length : Int) ≤ 9223372036854775807 := by have := HLL.out; omega
   clear hlt hlen HF HX HR
   rcases hcase with hc1 | ⟨hc1, hc2⟩
   all_goals
    go_wp2
    refine bodyPost_ret (v := .agg #[.slice A2 (bL E).length c2, .slice B2 (mL E).length d2]) ?_ rfl ⟨A2, B2, c2, d2, rfl, ?_, HG.out, ?_⟩
    ·simp only [results, show Tryz.f87.results = #[.cell 2 34] from rfl]
     first | (go_simp; done) | (go_simp; rfl)
    ·exact (HO.out.set HY.out 0 _).set (blk_set HY.out 0 _) 1 _
    ·exact (HB.out.setCell (p := ⟨w.heap.size, 0, none⟩) (Nat.le_refl _) _).setCell (p := ⟨w.heap.size, 1, none⟩) (Nat.le_refl _) _
end Go.Proofs.YtkffhgiiejbnaaaGreat.Rt
namespace Go.Proofs.YtkffhgiiejbnaaaGreat.Rt
open Go.RowKit YtkffhgiiejbnaaaGreatW.PrintWords YtkffhgiiejbnaaaGreatW.PrintLast YtkffhgiiejbnaaaGreatW.PrintMore Rf Aid Mp Hp Tk
theorem rnew_ok (A : Option Addr) (c : Nat) (l : List S91) (w : World) (hr : Kd.C k91 w A l.length l) (hl : l.length ≤ 1000000) {R : List Ent} (hok : newT (byteL 256) (mp l) 0 = (R, l.length, 0)) :
  Calls Tryz.prog 162 #[.slice A l.length c] w fun e w' => ∃ A2 B2 c2 d2, e = .returned (.tuple #[rV A2 B2 c2 d2 R, .int .i64 (l.length : Int), .int .i64 0]) ∧ ROwn w' w.heap.size A2 B2 c2 d2 R ∧ Below w.heap.size w w' := by
 have HR := As.mk hr
 have HF0 := As.mk (show newT (byteL 256) (mp (l.drop 0)) 0 = (R, l.length, 0) from hok)
 clear hr hok
 have hz : ∀ w, (zeroValue 34).run Tryz.prog w = .ok (.agg #[.slice none 0 0, .slice none 0 0]) w := fun w => by kernel_rfl
 go_enter Tryz.func162, Tryz.ntmps162
 go_wp2_with (go_at_call 124; refine (begin_ref _).mono ?_; rintro e w1 ⟨A1, B1, c1, d1, rfl, ho, hb⟩; have HO1 := As.mk ho; have HB1 := As.mk (bt_ (below_alloc (Below.refl _ _) _) hb); have HY1 := As.mk ((hb.block _ (blk_lt (Go.MapKept.heap_alloc w _).1)).trans (Go.MapKept.heap_alloc w (.cells #[.slice none 0 0, .slice none 0 0] 34)).1); clear ho hb; unfold rV)
 have HO2 := As.mk ((HO1.out.below (below_alloc (Below.refl _ _) (.cells #[.slice A1 (bL (byteL 256)).length c1, .slice B1 (mL (byteL 256)).length d1] 34))).lower (by simp : w.heap.size ≤ _))
 have HB2 := As.mk (below_alloc HB1.out (.cells #[.slice A1 (bL (byteL 256)).length c1, .slice B1 (mL (byteL 256)).length d1] 34))
 have HK1 := As.mk (Go.MapKept.heap_alloc w1 (.cells #[.slice A1 (bL (byteL 256)).length c1, .slice B1 (mL (byteL 256)).length d1] 34)).1
 have HLO := As.mk HB1.out.size
 have HNE := As.mk (Nat.ne_of_lt (blk_lt HY1.out))
 have HY2 := As.mk (((below_alloc (Below.refl w1.heap.size w1) (.cells #[.slice A1 (bL (byteL 256)).length c1, .slice B1 (mL (byteL 256)).length d1] 34)).block _ (blk_lt HY1.out)).trans HY1.out)
 clear HO1 HY1
 go_loopg [6] l.length (fun k v6 w' => ∃ (i : Nat) (E : List Ent) (A2 B2 : Option Addr) (c2 d2 : Nat), v6 = .int .i64 i ∧ i ≤ l.length ∧ As (w'.heap[w1.heap.size]? = some (.cells #[.slice A2 (bL E).length c2, .slice B2 (mL E).length d2] 34 (0, 0))) ∧ As (ROwn w' w.heap.size A2 B2 c2 d2 E) ∧ As (w'.heap[w.heap.size]? = some (.cells #[.slice none 0 0, .slice none 0 0] 34 (0, 0))) ∧ As (Tk.Good E) ∧ As (newT E (mp (l.drop i)) i = (R, l.length, 0)) ∧ As (l.length - i ≤ k) ∧ As (Below w.heap.size w w'))
 case atStart => exact ⟨0, byteL 256, A1, B1, c1, d1, rfl, by omega, HK1, HO2, HY2, ⟨Good.begin_⟩, HF0, ⟨by omega⟩, HB2⟩
 case round =>
  clear HF0 HO2 HB2 HK1 HY2
  obtain ⟨i, E, A2, B2, c2, d2, rfl, hi, HK, HO, HY, HG, HF, HM, HB⟩ := hrel
  by_cases hlt : i < l.length
  ·obtain ⟨k1, rfl⟩ : ∃ k1, gk = k1 + 1 := ⟨gk - 1, by have := HM.out; omega⟩
   have hltI : (i : Int) < l.length := by omega
   have hF' := (newT_at hlt).symm.trans HF.out
   obtain ⟨ad, rfl, x0, x1⟩ := at_T91 (Kd.C_below HR.out HB.out) (i : Int) (by omega) (by omega)
   rw [Int.toNat_natCast] at x0 x1
   generalize rd_T91 l i = x at *
   have hc0 : addC E x.f0 x.f1 = 0 := by
    by_cases hc0 : addC E x.f0 x.f1 = 0
    ·exact hc0
    ·rw [if_neg hc0] at hF'
     exact congrArg (fun q : List Ent × Nat × Int => q.2.2) hF'
   rw [if_pos hc0] at hF'
   have HF' := As.mk hF'
   have HA := As.mk (fun (W : World) (h : Below wr.heap.size wr W) => radd_any (HO.out.below h) HG.out (Nat.le_trans HB.out.size h.size) x.f0 x.f1)
   have hm : more E x.f0 x.f1 = E ++ [newE E x.f0 x.f1] := by unfold more; rw [if_pos hc0]
   rw [hc0, hm] at HA
   have HG2 := As.mk (hm ▸ more_good HG.out x.f0 x.f1 : Tk.Good (E ++ [newE E x.f0 x.f1]))
   clear hF' hc0 hm HF
   generalize E ++ [newE E x.f0 x.f1] = E2 at HF' HA HG2
   unfold rV at HA
   have d0 := cell_of (i := 0) HK.out rfl
   have d1 := cell_of (i := 1) HK.out rfl
   go_wp2_with fail
   refine start_ (n := 12) (S := fun w' => Below wr.heap.size wr w') (ds := []) #[false, false, false, false, false, false, false, false, false, false, false, false] (by kernel_rfl) rfl rfl (below_drew1 (Below.refl _ _)) (fun hHeld => ?_)
   refine pI 1 (some 18) (bs 12 2) ?_
   refine pI 2 (some 19) (bs 12 6) ?_
   refine pI 3 (some 20) (bs 12 14) ?_
   refine tI 0 (some 17) (bs 12 15) rfl (by intro w' hS'; have s0 := hS'; have d0' := pw_cell_below hS' d0; have d1' := pw_cell_below hS' d1; go_simp; with_reducible rfl) hHeld ?_
   refine tI 4 (some 21) (bs 12 31) rfl (by intro w' hS'; have s0 := hS'; have x0' := pw_cell_below hS' x0; have x1' := pw_cell_below hS' x1; go_simp; with_reducible rfl) hHeld ?_
   have HS5 := As.mk hHeld
   clear hHeld
   generalize wr.drew = w5 at HS5 ⊢
   refine join_ 2 #[true, true, true, true, true, true, true, true, true, true, false, false] (fun (q : Option Addr × Option Addr × Nat × Nat × Nat) => [(22, .tuple #[.agg #[.slice q.1 (bL E2).length q.2.2.1, .slice q.2.1 (mL E2).length q.2.2.2.1], .int .i64 0]), (16, .tuple #[.agg #[.slice q.1 (bL E2).length q.2.2.1, .slice q.2.1 (mL E2).length q.2.2.2.1], .int .i64 0]), (23, .agg #[.slice q.1 (bL E2).length q.2.2.1, .slice q.2.1 (mL E2).length q.2.2.2.1]), (24, .int .i64 0), (7, .pointer (some ⟨q.2.2.2.2, 0, none⟩))])
    (fun q W => Below wr.heap.size wr W ∧ ROwn W w.heap.size q.1 q.2.1 q.2.2.1 q.2.2.2.1 E2 ∧ W.heap[q.2.2.2.2]? = some (.cells #[.slice none 0 0, .slice none 0 0] 34 (0, 0)) ∧ wr.heap.size ≤ q.2.2.2.2) ?_ ?_
   rotate_left
   ·intro hcont
    refine two_ (i := 5) (j := 9) (Ni := some 22) (Nj := some 7) #[true, true, true, true, true, true, false, false, false, false, false, false] #[true, true, true, true, true, false, false, false, false, true, false, false] rfl rfl rfl rfl (by kernel_rfl) (by decide) (by decide) (fun K hK => ?_) (fun K hK => ?_)
    ·refine goes_ Tryz.func125 (by kernel_rfl) rfl #[.agg #[.slice A2 (bL E).length c2, .slice B2 (mL E).length d2], .agg #[.int .i64 x.f0, .int .i64 x.f1]] (by rfl) rfl rfl (by simp [Act.eval]) ?_
     refine (HA.out _ HS5.out).mono ?_
     rintro e w6 ⟨A4, B4, c4, d4, rfl, ho, hb⟩
     refine ⟨_, rfl, ?_⟩
     have hSw6 := bt_ HS5.out hb
     refine hK.out _ _ hSw6 (fun _ => ?_)
     clear hK K
     refine nI ?_
     refine pI 6 (some 16) (bs 12 127) ?_
     refine pI 7 (some 23) (bs 12 255) ?_
     refine pI 8 (some 24) (bs 12 511) ?_
     refine one_ (i := 9) (N := some 7) (bs 12 1023) rfl rfl (by kernel_rfl) (by decide) (fun K hK => ?_)
     refine value_ (w1 := w6.alloc (.cells #[.slice none 0 0, .slice none 0 0] 34)) (v := .pointer (some ⟨w6.heap.size, 0, none⟩)) (by rfl) rfl ?_ ?_
     ·first | (go_simp; done) | (go_simp; rfl)
     have hSw7 := below_alloc hSw6 (.cells #[.slice none 0 0, .slice none 0 0] 34)
     have hGw7 := (Go.MapKept.heap_alloc w6 (.cells #[.slice none 0 0, .slice none 0 0] 34)).1
     have hq := below_alloc (Below.refl w6.heap.size w6) (.cells #[.slice none 0 0, .slice none 0 0] 34)
     refine hK.out _ _ hSw7 (fun _ => ?_)
     clear hK K
     refine nI ?_
     exact norm_ (by first | (simp only [Act.put, putAll, List.setIfInBounds_toArray, List.set_cons_zero, List.set_cons_succ]; done) | (simp only [Act.put, putAll, List.setIfInBounds_toArray, List.set_cons_zero, List.set_cons_succ]; rfl)) (hcont ⟨A4, B4, c4, d4, w6.heap.size⟩ _ ⟨hSw7, ho.below hq, hGw7, hSw6.size⟩)
    ·refine value_ (w1 := w5.alloc (.cells #[.slice none 0 0, .slice none 0 0] 34)) (v := .pointer (some ⟨w5.heap.size, 0, none⟩)) (by rfl) rfl ?_ ?_
     ·first | (go_simp; done) | (go_simp; rfl)
     have hSw6 := below_alloc HS5.out (.cells #[.slice none 0 0, .slice none 0 0] 34)
     have hGw6 := (Go.MapKept.heap_alloc w5 (.cells #[.slice none 0 0, .slice none 0 0] 34)).1
     refine hK.out _ _ hSw6 (fun _ => ?_)
     clear hK K
     refine nI ?_
     refine one_ (i := 5) (N := some 22) (bs 12 575) rfl rfl (by kernel_rfl) (by decide) (fun K hK => ?_)
     refine goes_ Tryz.func125 (by kernel_rfl) rfl #[.agg #[.slice A2 (bL E).length c2, .slice B2 (mL E).length d2], .agg #[.int .i64 x.f0, .int .i64 x.f1]] (by rfl) rfl rfl (by simp [Act.eval]) ?_
     refine (HA.out _ hSw6).mono ?_
     rintro e w7 ⟨A4, B4, c4, d4, rfl, ho, hb⟩
     refine ⟨_, rfl, ?_⟩
     have hSw7 := bt_ hSw6 hb
     have hG7 := (hb.block _ (blk_lt hGw6)).trans hGw6
     refine hK.out _ _ hSw7 (fun _ => ?_)
     clear hK K
     refine nI ?_
     refine pI 6 (some 16) (bs 12 639) ?_
     refine pI 7 (some 23) (bs 12 767) ?_
     refine pI 8 (some 24) (bs 12 1023) ?_
     exact norm_ (by first | (simp only [Act.put, putAll, List.setIfInBounds_toArray, List.set_cons_zero, List.set_cons_succ]; done) | (simp only [Act.put, putAll, List.setIfInBounds_toArray, List.set_cons_zero, List.set_cons_succ]; rfl)) (hcont ⟨A4, B4, c4, d4, w5.heap.size⟩ _ ⟨hSw7, ho, hG7, HS5.out.size⟩)
   ·rintro ⟨A4, B4, c4, d4, g⟩ w8 ⟨hS8, hO8, hG8, hL8⟩
    simp only at hO8 hG8 hL8
    refine norm_ (a' := ?_) ?_ ?_
    rotate_left
    ·(simp only [Act.put, putAll, List.setIfInBounds_toArray, List.set_cons_zero, List.set_cons_succ]; rfl)
    have f0 := cell_of (i := 0) hG8 rfl
    have f1 := cell_of (i := 1) hG8 rfl
    have z0 := frozen_of hG8 0
    have z1 := frozen_of hG8 1
    refine one_ (i := 10) (N := none) (bs 12 2047) rfl rfl (by kernel_rfl) (by decide) (fun K hK => ?_)
    have hS9 := (hS8.setCell (p := ⟨g, 0, none⟩) hL8 (.slice A4 (bL E2).length c4)).setCell (p := ⟨g, 1, none⟩) hL8 (.slice B4 (mL E2).length d4)
    refine skip_ (w1 := (w8.setCell ⟨g, 0, none⟩ (.slice A4 (bL E2).length c4)).setCell ⟨g, 1, none⟩ (.slice B4 (mL E2).length d4)) (by rfl) rfl ?_ ?_
    ·first | (go_simp; done) | (go_simp; rfl)
    refine hK.out _ _ hS9 (fun _ => ?_)
    clear hK K
    refine pI 11 (some 8) (bs 12 4095) ?_
    refine done_ (by kernel_rfl) ?_
    have HS9 := As.mk hS9
    have HK9 := As.mk (((hS9.block _ (blk_lt HK.out)).trans HK.out))
    have HY9 := As.mk (((hS9.block _ (blk_lt HY.out)).trans HY.out))
    have HO9 := As.mk ((hO8.set hG8 0 (.slice A4 (bL E2).length c4)).set (blk_set hG8 0 _) 1 (.slice B4 (mL E2).length d4))
    have HG9 := As.mk (blk_set (blk_set hG8 0 (.slice A4 (bL E2).length c4)) 1 (.slice B4 (mL E2).length d4))
    have HB9 := As.mk (bt_ HB.out hS9)
    clear hS9 hS8 hO8 hG8 hL8 f0 f1 z0 z1 HK HY HO HB HA d0 d1
    generalize (w8.setCell ⟨g, 0, none⟩ (.slice A4 (bL E2).length c4)).setCell ⟨g, 1, none⟩ (.slice B4 (mL E2).length d4) = w9 at HS9 HK9 HY9 HO9 HG9 HB9 ⊢
    have d0 := cell_of (i := 0) HG9.out rfl
    have d1 := cell_of (i := 1) HG9.out rfl
    have z0 := frozen_of HK9.out 0
    have z1 := frozen_of HK9.out 1
    have f0 := cell_of (i := 0) HK9.out rfl
    have f1 := cell_of (i := 1) HK9.out rfl
    go_wp2
    go_roundg k1
    case measure => omega
    case rel => exact ⟨i + 1, E2, A4, B4, c4, d4, by go_num, by omega, ⟨blk_set (blk_set HK9.out 0 _) 1 _⟩, ⟨(HO9.out.set HK9.out 0 _).set (blk_set HK9.out 0 _) 1 _⟩, ⟨blk_far (blk_far HY9.out (p := ⟨w1.heap.size, 0, none⟩) HNE.out _) (p := ⟨w1.heap.size, 1, none⟩) HNE.out _⟩, HG2, HF', ⟨by have := HM.out; omega⟩, ⟨(HB9.out.setCell (p := ⟨w1.heap.size, 0, none⟩) HLO.out _).setCell (p := ⟨w1.heap.size, 1, none⟩) HLO.out _⟩⟩
  ·obtain rfl : i = l.length := by omega
   have hR : E = R := by
    have h := HF.out
    rw [List.drop_length] at h
    exact congrArg (fun q : List Ent × Nat × Int => q.1) h
   subst hR
   have d0 := cell_of (i := 0) HK.out rfl
   have d1 := cell_of (i := 1) HK.out rfl
   have f0 := cell_of (i := 0) HY.out rfl
   have f1 := cell_of (i := 1) HY.out rfl
   have z0 := frozen_of HY.out 0
   have z1 := frozen_of HY.out 1
   clear HF
   go_wp2
   refine bodyPost_ret (v := .tuple #[.agg #[.slice A2 (bL E).length c2, .slice B2 (mL E).length d2], .int .i64 (l.length : Int), .int .i64 0]) ?_ rfl ⟨A2, B2, c2, d2, rfl, ?_, ?_⟩
   ·simp only [results, show Tryz.f162.results = #[.cell 2 34, .tmp 3, .tmp 4] from rfl]
    first | (go_simp; done) | (go_simp; rfl)
   ·exact (HO.out.set HY.out 0 _).set (blk_set HY.out 0 _) 1 _
   ·exact (HB.out.setCell (p := ⟨w.heap.size, 0, none⟩) (Nat.le_refl _) _).setCell (p := ⟨w.heap.size, 1, none⟩) (Nat.le_refl _) _
end Go.Proofs.YtkffhgiiejbnaaaGreat.Rt
