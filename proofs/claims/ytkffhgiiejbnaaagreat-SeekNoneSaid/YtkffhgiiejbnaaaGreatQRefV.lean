import Derived.Test.YtkffhgiiejbnaaaGreatQRendRef
import Derived.Test.YtkffhgiiejbnaaaGreatQ01
import Derived.Test.YtkffhgiiejbnaaaGreatQ02
import Derived.Test.YtkffhgiiejbnaaaGreatQRefN
import Derived.Test.YtkffhgiiejbnaaaGreatQVocA
set_option maxRecDepth 100000
set_option maxHeartbeats 2000000
set_option linter.unusedVariables false
set_option linter.unusedSimpArgs false
set_option linter.unnecessarySimpa false
namespace Go.Proofs.YtkffhgiiejbnaaaGreat.Mk
open Go.RowKit YtkffhgiiejbnaaaGreatW.PrintWords YtkffhgiiejbnaaaGreatW.PrintLast YtkffhgiiejbnaaaGreatW.PrintMore Rf Aid Mp
def twice (S : List Sp) (x : Sp) : Bool := S.any (fun y => decide (y.f0 = x.f0) || decide (y.f1 = x.f1))
theorem twice_is (S : List Sp) (x : Sp) : ((idxI S x.f0).isSome || (idx S x.f1).isSome) = twice S x := by
 unfold idxI idx twice
 rw [List.findIdx?_isSome, List.findIdx?_isSome]
 induction S with
 | nil => rfl
 | cons a S ih =>
  simp only [List.any_cons]
  rw [← ih]
  cases decide (a.f0 = x.f0) <;> cases decide (a.f1 = x.f1) <;> simp
theorem tl_inj {s t : ByteArray} : s.toList = t.toList ↔ s = t := by
 constructor
 ·intro h
  rw [ByteArray.toList_eq, ByteArray.toList_eq] at h
  cases s; cases t
  congr 1
  exact Array.toList_inj.1 h
 ·rintro rfl; rfl
theorem check_inner (l : List Sp) (i : Nat) (hi : i < l.length) (hl : l.length ≤ 1000) (R : Option (Int × Int)) (B : Nat) (hB : ∀ k', B ≤ k' → ligatureref09_Check.l0 k' l ((i + 1 : Nat) : Int) = R) :
  ∀ (e k j : Nat), j ≤ i → i - j = e → e + 1 + B ≤ k → ligatureref09_Check.l1 k l i j = if twice ((l.take i).drop j) l[i] = true then some ((i : Int), 10) else R
 | 0, k, j, h0, h1, h2 => by
  obtain ⟨k, rfl⟩ : ∃ m, k = m + 1 := ⟨k - 1, by omega⟩
  have hw : wrap64 ((i : Int) + 1) = ((i + 1 : Nat) : Int) := (w64 (by omega) (by omega)).trans (by omega)
  simp only [ligatureref09_Check.l1]
  rw [if_neg (by omega), hw, hB k (by omega), List.drop_eq_nil_of_le (by simp; omega)]
  rfl
 | e + 1, k, j, h0, h1, h2 => by
  obtain ⟨k, rfl⟩ : ∃ m, k = m + 1 := ⟨k - 1, by omega⟩
  have hj : j < l.length := by omega
  have hw : wrap64 ((j : Int) + 1) = ((j + 1 : Nat) : Int) := (w64 (by omega) (by omega)).trans (by omega)
  have hjt : j < (l.take i).length := by simp; omega
  simp only [ligatureref09_Check.l1]
  rw [if_pos (by omega), if_pos (by omega), if_pos (by omega), if_pos (by omega), if_pos (by omega), rd_at hj, rd_at hi, List.drop_eq_getElem_cons hjt, List.getElem_take]
  by_cases e0 : (l[j]).f0 = (l[i]).f0
  ·rw [if_pos e0, if_pos (by unfold twice; simp [e0])]
  ·rw [if_neg e0]
   by_cases e1 : (l[j]).f1 = (l[i]).f1
   ·rw [if_pos (tl_inj.2 e1), if_pos (by unfold twice; simp [e1])]
   ·rw [if_neg (fun h => e1 (tl_inj.1 h)), hw, check_inner l i hi hl R B hB e k (j + 1) (by omega) (by omega) (by omega)]
    have : twice (l[j] :: (l.take i).drop (j + 1)) l[i] = twice ((l.take i).drop (j + 1)) l[i] := by
     unfold twice
     rw [List.any_cons, decide_eq_false e0, decide_eq_false e1]
     rfl
    rw [this]
theorem check_run (l : List Sp) (hl : l.length ≤ 1000) : ∀ (d k i : Nat), i ≤ l.length → i ≤ 32 → l.length - i = d → 40 * d + 1 ≤ k → ligatureref09_Check.l0 k l i = some (((newF (l.take i) (l.drop i) i).1 : Int), (newF (l.take i) (l.drop i) i).2)
 | 0, k, i, h0, h1, h2, h3 => by
  obtain ⟨k, rfl⟩ : ∃ m, k = m + 1 := ⟨k - 1, by omega⟩
  simp only [ligatureref09_Check.l0]
  rw [if_neg (by omega), List.drop_eq_nil_of_le (by omega)]
  obtain rfl : i = l.length := by omega
  rfl
 | d + 1, k, i, h0, h1, h2, h3 => by
  obtain ⟨k, rfl⟩ : ∃ m, k = m + 2 := ⟨k - 2, by omega⟩
  have hlt : i < l.length := by omega
  simp only [ligatureref09_Check.l0]
  rw [if_pos (by omega), if_pos (by omega), rd_at hlt, List.drop_eq_getElem_cons hlt]
  have ht : l.take i ++ [l[i]] = l.take (i + 1) := (List.take_succ_eq_append_getElem hlt).symm
  have hx : goodB l[i] = decide (0 ≤ (l[i]).f0 ∧ (l[i]).f0 ≤ 1073741824 ∧ 1 ≤ (l[i]).f1.size ∧ (l[i]).f1.size ≤ 64) := rfl
  unfold newF
  rw [ht]
  have hin := fun R B hB => check_inner l i hlt hl R B hB i k 0 (by omega) (by omega)
  rw [List.drop_zero] at hin
  generalize l[i] = x at *
  have hj : (if x.f0 < 0 then ligatureref09_Check.j1 (k + 1) l (i : Int) true else if x.f0 > 1073741824 then ligatureref09_Check.j1 (k + 1) l (i : Int) true else if (x.f1.size : Int) < 1 then ligatureref09_Check.j1 (k + 1) l (i : Int) true else ligatureref09_Check.j1 (k + 1) l (i : Int) (decide ((x.f1.size : Int) > 64))) = ligatureref09_Check.j1 (k + 1) l (i : Int) (!goodB x) := by
   rw [hx]
   by_cases a : x.f0 < 0
   ·rw [if_pos a, decide_eq_false (by omega)]; rfl
   ·rw [if_neg a]
    by_cases b : x.f0 > 1073741824
    ·rw [if_pos b, decide_eq_false (by omega)]; rfl
    ·rw [if_neg b]
     by_cases e : (x.f1.size : Int) < 1
     ·rw [if_pos e, decide_eq_false (by omega)]; rfl
     ·rw [if_neg e]
      congr 1
      by_cases f : (x.f1.size : Int) > 64
      ·rw [decide_eq_true f, decide_eq_false (by omega)]; rfl
      ·rw [decide_eq_false f, decide_eq_true (by omega)]; rfl
  rw [hj]
  have hlen : (l.take i).length = i := by simp; omega
  simp only [ligatureref09_Check.j1]
  cases hg : goodB x with
  | false =>
   have he : addE (l.take i) x = 1 := by unfold addE; rw [hg, if_neg (by simp)]
   rw [he]
   rfl
  | true =>
   rw [if_neg (by simp)]
   by_cases h32 : i < 32
   ·rw [if_neg (by omega)]
    have hn := hin _ (40 * d + 1) (fun k' hk' => check_run l hl d k' (i + 1) (by omega) (by omega) (by omega) hk') (by omega)
    rw [show ((0 : Nat) : Int) = 0 from rfl] at hn
    rw [hn]
    have he : addE (l.take i) x = if twice (l.take i) x = true then 10 else 0 := by
     unfold addE; rw [hg, if_pos rfl, hlen, if_pos h32, twice_is]
    rw [he]
    cases twice (l.take i) x <;> rfl
   ·have he : addE (l.take i) x = 3 := by unfold addE; rw [hg, if_pos rfl, hlen, if_neg h32]
    rw [if_pos (by omega), he]
    rfl
theorem check_some (l : List Sp) (hl : l.length ≤ 1000) : ligatureref09_Check.f (40 * l.length + 1) l = some (((newP l).1 : Int), (newP l).2) := by
 unfold ligatureref09_Check.f newP
 have := check_run l hl l.length (40 * l.length + 1) 0 (by omega) (by omega) (by omega) (by omega)
 simpa using this
theorem check_any' (A : Option Addr) (c : Nat) (l : List Sp) (w : World) (hr : Kd.C kSp w A l.length l) (hc : l.length ≤ c) (hl : l.length ≤ 1000) :
  Calls Tryz.prog 89 #[.slice A l.length c] w fun e w' => e = .returned (.tuple #[.int .i64 (newP l).1, .int .i64 (newP l).2]) ∧ Drawn0 w w' :=
 ligatureref09_Check.calls _ A c l _ _ w hr hc (check_some l hl)
end Go.Proofs.YtkffhgiiejbnaaaGreat.Mk
namespace Go.Proofs.YtkffhgiiejbnaaaGreat.Rt
open Go.RowKit YtkffhgiiejbnaaaGreatW.PrintWords YtkffhgiiejbnaaaGreatW.PrintLast YtkffhgiiejbnaaaGreatW.PrintMore Rf Aid Mp Hp Tk Vc
theorem newT_n : ∀ (l : List (Int × Int)) (E : List Ent) (n : Nat), (newT E l n).2.2 = 0 → (newT E l n).2.1 = n + l.length
 | [], E, n, _ => rfl
 | m :: l, E, n, h => by
  unfold newT at h ⊢
  split at h
  ·rename_i hc
   rw [if_pos hc, newT_n l _ (n + 1) h, List.length_cons]; omega
  ·rename_i hc; exact absurd h hc
theorem tab_is {s : Vc.Sp} (h : (tabOf s).2.2 = 0) : newT (byteL 256) (mp s.M) 0 = ((tabOf s).1, s.M.length, 0) := by
 have h1 := newT_n _ _ _ h
 have h2 : (mp s.M).length = s.M.length := by simp [mp]
 rw [h2] at h1
 unfold tabOf at h ⊢
 generalize newT (byteL 256) (mp s.M) 0 = q at *
 obtain ⟨a, b, c⟩ := q
 simp only at *
 rw [h, h1]; simp
theorem load_ref {A1 A3 A4 A5 : Option Addr} (c1 c3 c4 c5 : Nat) {s : Vc.Sp} {w : World} (hs : SpAt w A1 A3 A4 A5 s) (h : VOk s) :
  Calls Tryz.prog 126 #[spV A1 A3 A4 A5 c1 c3 c4 c5 s] w fun e w' => ∃ A2 B2 c2 d2, e = .returned (.tuple #[rV A2 B2 c2 d2 (tabOf s).1, .int .i64 (s.M.length : Int), .int .i64 0]) ∧ ROwn w' w.heap.size A2 B2 c2 d2 (tabOf s).1 ∧ Below w.heap.size w w' := by
 have ht := tab_is h.tab
 have HM := As.mk hs.M
 have hn := h.sp.nM
 have HN := As.mk (fun (W : World) (hb : Below w.heap.size w W) => rnew_ok A1 c1 s.M W (Kd.C_below HM.out hb) (by omega) ht)
 have hz : ∀ w, (zeroValue 34).run Tryz.prog w = .ok (.agg #[.slice none 0 0, .slice none 0 0]) w := fun w => by kernel_rfl
 generalize (tabOf s).1 = E at *
 unfold spV
 unfold rV at HN ⊢
 clear ht hs h
 go_enter Tryz.func126, Tryz.ntmps126
 have hb0 := below_alloc (below_alloc (Below.refl w.heap.size w) (.cells #[.bool false, .slice A1 s.M.length c1, .slice none 0 0, .slice A3 s.X.length c3, .slice A4 s.C.length c4, .slice A5 s.J.length c5] 95)) (.cells #[.slice none 0 0, .slice none 0 0] 34)
 have HB0 := As.mk hb0
 have hy := push3 w.heap (.cells #[.bool false, .slice A1 s.M.length c1, .slice none 0 0, .slice A3 s.X.length c3, .slice A4 s.C.length c4, .slice A5 s.J.length c5] 95) (.cells #[.slice none 0 0, .slice none 0 0] 34) (.cells #[.slice none 0 0, .slice none 0 0] 34)
 clear hb0 hy
 have HY := As.mk (show ((w.alloc (.cells #[.bool false, .slice A1 s.M.length c1, .slice none 0 0, .slice A3 s.X.length c3, .slice A4 s.C.length c4, .slice A5 s.J.length c5] 95)).alloc (.cells #[.slice none 0 0, .slice none 0 0] 34)).heap[w.heap.size + 1]? = some (.cells #[.slice none 0 0, .slice none 0 0] 34 (0, 0)) from by have := (Go.MapKept.heap_alloc (w.alloc (.cells #[.bool false, .slice A1 s.M.length c1, .slice none 0 0, .slice A3 s.X.length c3, .slice A4 s.C.length c4, .slice A5 s.J.length c5] 95)) (.cells #[.slice none 0 0, .slice none 0 0] 34)).1; simpa using this)
 go_wp2_with (go_at_call 162; refine (HN.out _ HB0.out).mono ?_; rintro e w2 ⟨A2, B2, c2, d2, rfl, ho, hb⟩; have HY2 := As.mk ((hb.block _ (blk_lt HY.out)).trans HY.out); have HO2 := As.mk (ho.lower HB0.out.size); have HB2 := As.mk (bt_ HB0.out hb); clear ho hb HN; have z0 := frozen_of HY2.out 0; have z1 := frozen_of HY2.out 1; have f0 := cell_of (i := 0) HY2.out rfl; have f1 := cell_of (i := 1) HY2.out rfl)
 refine bodyPost_ret (v := .tuple #[.agg #[.slice A2 (bL E).length c2, .slice B2 (mL E).length d2], .int .i64 (s.M.length : Int), .int .i64 0]) ?_ rfl ⟨A2, B2, c2, d2, rfl, ?_, ?_⟩
 ·simp only [results, show Tryz.f126.results = #[.cell 2 34, .tmp 3, .tmp 4] from rfl]
  first | (go_simp; done) | (go_simp; rfl)
 ·exact (HO2.out.set HY2.out 0 _).set (blk_set HY2.out 0 _) 1 _
 ·exact (HB2.out.setCell (p := ⟨w.heap.size + 1, 0, none⟩) (by show w.heap.size ≤ w.heap.size + 1; omega) _).setCell (p := ⟨w.heap.size + 1, 1, none⟩) (by show w.heap.size ≤ w.heap.size + 1; omega) _
def vV (A0 B0 A3 A4 A5 : Option Addr) (c0 d0 c3 c4 c5 : Nat) (E : List Ent) (s : Vc.Sp) : Value := .agg #[.slice A0 (bL E).length c0, .slice B0 (mL E).length d0, .slice A4 s.C.length c4, .slice A5 s.J.length c5, .slice A3 s.X.length c3]
theorem zeroV (w : World) : (zeroValue 38).run Tryz.prog w = .ok (.agg #[.slice none 0 0, .slice none 0 0, .slice none 0 0, .slice none 0 0, .slice none 0 0]) w := by kernel_rfl
theorem ROwn.setV {w : World} {base g : Nat} {cells : Array Value} {A B : Option Addr} {c d : Nat} {E : List Ent} (h : ROwn w base A B c d E) (hb : w.heap[g]? = some (.cells cells 38 (0, 0))) (j : Nat) (u : Value) : ROwn (w.setCell ⟨g, j, none⟩ u) base A B c d E := ⟨Kd.R_set h.b hb (by decide) j u, Kd.R_set h.m hb (by decide) j u⟩
theorem new_ref {A1 A3 A4 A5 : Option Addr} (c1 c3 c4 c5 : Nat) {s : Vc.Sp} {w : World} (hs : SpAt w A1 A3 A4 A5 s) (h : VOk s) (hc3 : s.X.length ≤ c3) :
  Calls Tryz.prog 90 #[spV A1 A3 A4 A5 c1 c3 c4 c5 s] w fun e w' => ∃ A0 B0 c0 d0, e = .returned (.tuple #[vV A0 B0 A3 A4 A5 c0 d0 c3 c4 c5 (tabOf s).1 s, .int .i64 0, .int .i64 0, .int .i64 0]) ∧ ROwn w' w.heap.size A0 B0 c0 d0 (tabOf s).1 ∧ Below w.heap.size w w' := by
 have HS := As.mk hs
 have HN := As.mk (fun (W : World) (hb : Below w.heap.size w W) => load_ref c1 c3 c4 c5 (HS.out.below hb) h)
 have hset := h.set
 have hnp : ((Mk.newP s.X).2 != 0) = false := by rw [hset]; rfl
 have HC := As.mk (fun (W : World) (hb : Below w.heap.size w W) => Mk.check_any' A3 c3 s.X W (Kd.C_below HS.out.X hb) hc3 (by have := h.sp.nX; omega))
 rw [hset] at HC
 have hX : s.X.length ≤ 32 := h.sp.nX
 have HI := As.mk h.ids
 generalize (Mk.newP s.X).1 = nX at HC
 have hz := zeroV
 have hz2 : ∀ w, (zeroValue 34).run Tryz.prog w = .ok (.agg #[.slice none 0 0, .slice none 0 0]) w := fun w => by kernel_rfl
 generalize (tabOf s).1 = E at *
 unfold spV at HN
 unfold rV at HN
 unfold spV vV
 clear hset h hs hnp
 have HB0 := As.mk (below_alloc (below_alloc (Below.refl w.heap.size w) (.cells #[.bool false, .slice A1 s.M.length c1, .slice none 0 0, .slice A3 s.X.length c3, .slice A4 s.C.length c4, .slice A5 s.J.length c5] 95)) (.cells #[.slice none 0 0, .slice none 0 0, .slice none 0 0, .slice none 0 0, .slice none 0 0] 38))
 have HY0 := As.mk (show ((w.alloc (.cells #[.bool false, .slice A1 s.M.length c1, .slice none 0 0, .slice A3 s.X.length c3, .slice A4 s.C.length c4, .slice A5 s.J.length c5] 95)).alloc (.cells #[.slice none 0 0, .slice none 0 0, .slice none 0 0, .slice none 0 0, .slice none 0 0] 38)).heap[w.heap.size + 1]? = some (.cells #[.slice none 0 0, .slice none 0 0, .slice none 0 0, .slice none 0 0, .slice none 0 0] 38 (0, 0)) from by have := (Go.MapKept.heap_alloc (w.alloc (.cells #[.bool false, .slice A1 s.M.length c1, .slice none 0 0, .slice A3 s.X.length c3, .slice A4 s.C.length c4, .slice A5 s.J.length c5] 95)) (.cells #[.slice none 0 0, .slice none 0 0, .slice none 0 0, .slice none 0 0, .slice none 0 0] 38)).1; simpa using this)
 have HP0 := As.mk (show ((w.alloc (.cells #[.bool false, .slice A1 s.M.length c1, .slice none 0 0, .slice A3 s.X.length c3, .slice A4 s.C.length c4, .slice A5 s.J.length c5] 95)).alloc (.cells #[.slice none 0 0, .slice none 0 0, .slice none 0 0, .slice none 0 0, .slice none 0 0] 38)).heap[w.heap.size]? = some (.cells #[.bool false, .slice A1 s.M.length c1, .slice none 0 0, .slice A3 s.X.length c3, .slice A4 s.C.length c4, .slice A5 s.J.length c5] 95 (0, 0)) from by show ((w.heap.push _).push _)[w.heap.size]? = _; rw [Array.getElem?_push, if_neg (by simp), Array.getElem?_push, if_pos rfl])
 go_enter Tryz.func90, Tryz.ntmps90
 go_wp2_with (first
  | (go_at_call 126; refine (HN.out _ HB0.out).mono ?_; rintro e w2 ⟨A2, B2, c2, d2, rfl, ho, hb⟩; have HB2 := As.mk (bt_ HB0.out hb); have HY2 := As.mk ((hb.block _ (blk_lt HY0.out)).trans HY0.out); have HP2 := As.mk ((hb.block _ (blk_lt HP0.out)).trans HP0.out); have HO2 := As.mk ho; have hba := below_alloc (Below.refl w2.heap.size w2) (.cells #[.slice A2 (bL E).length c2, .slice B2 (mL E).length d2] 34); have HB3 := As.mk (bt_ HB2.out hba); have HY3 := As.mk ((hba.block _ (blk_lt HY2.out)).trans HY2.out); have HP3 := As.mk ((hba.block _ (blk_lt HP2.out)).trans HP2.out); have HO3 := As.mk ((HO2.out.below hba).lower HB0.out.size); have HT3 := As.mk (Go.MapKept.heap_alloc w2 (.cells #[.slice A2 (bL E).length c2, .slice B2 (mL E).length d2] 34)).1; clear hba hb ho HN HB0 HY0 HP0 HB2 HY2 HP2 HO2; have p3 := cell_of (i := 3) HP3.out rfl))
 refine (HC.out _ HB3.out).mono ?_
 rintro e w4 ⟨rfl, ⟨⟨n, hw⟩⟩⟩
 have hq := pw_below_drewN (Below.refl (w2.alloc (.cells #[.slice A2 (bL E).length c2, .slice B2 (mL E).length d2] 34)).heap.size (w2.alloc (.cells #[.slice A2 (bL E).length c2, .slice B2 (mL E).length d2] 34))) n
 rw [← hw] at hq
 have HB4 := As.mk (bt_ HB3.out hq)
 have HY4 := As.mk ((hq.block _ (blk_lt HY3.out)).trans HY3.out)
 have HP4 := As.mk ((hq.block _ (blk_lt HP3.out)).trans HP3.out)
 have HT4 := As.mk ((hq.block _ (blk_lt HT3.out)).trans HT3.out)
 have HO4 := As.mk (HO3.out.below hq)
 clear hq hw p3 HB3 HY3 HP3 HO3 HT3
 go_wp2
 go_loopg [9] s.X.length (fun k v9 w' => ∃ (i : Nat), v9 = .int .i64 i ∧ i ≤ s.X.length ∧ As (w'.heap[w.heap.size + 1]? = some (.cells #[.slice none 0 0, .slice none 0 0, .slice none 0 0, .slice none 0 0, .slice none 0 0] 38 (0, 0))) ∧ As (w'.heap[w.heap.size]? = some (.cells #[.bool false, .slice A1 s.M.length c1, .slice none 0 0, .slice A3 s.X.length c3, .slice A4 s.C.length c4, .slice A5 s.J.length c5] 95 (0, 0))) ∧ As (w'.heap[w2.heap.size]? = some (.cells #[.slice A2 (bL E).length c2, .slice B2 (mL E).length d2] 34 (0, 0))) ∧ As (ROwn w' w.heap.size A2 B2 c2 d2 E) ∧ As (s.X.length - i ≤ k) ∧ As (Below w.heap.size w w'))
 case atStart => exact ⟨0, rfl, by omega, HY4, HP4, HT4, HO4, ⟨by omega⟩, HB4⟩
 case round =>
  clear HY4 HP4 HT4 HO4 HB4
  obtain ⟨i, rfl, hi, HY, HP, HT, HO, HM, HB⟩ := hrel
  have p3 := cell_of (i := 3) HP.out rfl
  by_cases hlt : i < s.X.length
  ·obtain ⟨k1, rfl⟩ : ∃ k1, gk = k1 + 1 := ⟨gk - 1, by have := HM.out; omega⟩
   have hltI : (i : Int) < s.X.length := by omega
   obtain ⟨ad, rfl, x0, x1⟩ := at_T93 (Kd.C_below HS.out.X HB.out) (i : Int) (by omega) (by omega)
   rw [Int.toNat_natCast] at x0 x1
   have hid := HI.out (rd_T93 s.X i) (by unfold rd_T93; rw [Int.toNat_natCast, List.getD_eq_getElem?_getD, List.getElem?_eq_getElem hlt]; exact List.getElem_mem hlt)
   have hid2 : ¬ (rd_T93 s.X i).f0 < ((bL E).length : Int) := by rw [bL_len]; omega
   have t0 := cell_of (i := 0) HT.out rfl
   generalize rd_T93 s.X i = x at *
   clear hid x1
   go_wp2
   go_quiet (fail)
   have hq := pw_below_drewN (Below.refl wr.heap.size wr) nq
   have HY5 := As.mk ((hq.block _ (blk_lt HY.out)).trans HY.out)
   have HP5 := As.mk ((hq.block _ (blk_lt HP.out)).trans HP.out)
   have HT5 := As.mk ((hq.block _ (blk_lt HT.out)).trans HT.out)
   have HO5 := As.mk (HO.out.below hq)
   have HB5 := As.mk (bt_ HB.out hq)
   clear hq p3 t0 x0 HY HP HT HO HB
   generalize wr.drewN nq = w5 at HY5 HP5 HT5 HO5 HB5 ⊢
   go_wp2
   go_roundg k1
   case measure => omega
   case rel => exact ⟨i + 1, by go_num, by omega, HY5, HP5, HT5, HO5, ⟨by have := HM.out; omega⟩, HB5⟩
  ·obtain rfl : i = s.X.length := by omega
   have p4 := cell_of (i := 4) HP.out rfl
   have p5 := cell_of (i := 5) HP.out rfl
   have t0 := cell_of (i := 0) HT.out rfl
   have t1 := cell_of (i := 1) HT.out rfl
   have y0 := cell_of (i := 0) HY.out rfl
   have y1 := cell_of (i := 1) HY.out rfl
   have y2 := cell_of (i := 2) HY.out rfl
   have y3 := cell_of (i := 3) HY.out rfl
   have y4 := cell_of (i := 4) HY.out rfl
   have z0 := frozen_of HY.out 0
   have z1 := frozen_of HY.out 1
   have z2 := frozen_of HY.out 2
   have z3 := frozen_of HY.out 3
   have z4 := frozen_of HY.out 4
   go_wp2
   refine bodyPost_ret (v := .tuple #[.agg #[.slice A2 (bL E).length c2, .slice B2 (mL E).length d2, .slice A4 s.C.length c4, .slice A5 s.J.length c5, .slice A3 s.X.length c3], .int .i64 0, .int .i64 0, .int .i64 0]) ?_ rfl ⟨A2, B2, c2, d2, rfl, ?_, ?_⟩
   ·simp only [results, show Tryz.f90.results = #[.cell 2 38, .tmp 3, .tmp 4, .tmp 5] from rfl]
    first | (go_simp; done) | (go_simp; rfl)
   ·have g0 := blk_set HY.out 0 (.slice A2 (bL E).length c2)
    have g1 := blk_set g0 1 (.slice B2 (mL E).length d2)
    have g2 := blk_set g1 2 (.slice A4 s.C.length c4)
    have g3 := blk_set g2 3 (.slice A5 s.J.length c5)
    exact ((((HO.out.setV HY.out 0 _).setV g0 1 _).setV g1 2 _).setV g2 3 _).setV g3 4 _
   ·have hle : w.heap.size ≤ w.heap.size + 1 := by omega
    exact ((((HB.out.setCell (p := ⟨w.heap.size + 1, 0, none⟩) hle _).setCell (p := ⟨w.heap.size + 1, 1, none⟩) hle _).setCell (p := ⟨w.heap.size + 1, 2, none⟩) hle _).setCell (p := ⟨w.heap.size + 1, 3, none⟩) hle _).setCell (p := ⟨w.heap.size + 1, 4, none⟩) hle _
theorem of_ref {A1 A3 A4 A5 : Option Addr} (c1 c3 c4 c5 : Nat) {s : Vc.Sp} {w : World} (hs : SpAt w A1 A3 A4 A5 s) (h : VOk s) (hc3 : s.X.length ≤ c3) :
  Calls Tryz.prog 52 #[spV A1 A3 A4 A5 c1 c3 c4 c5 s] w fun e w' => ∃ A0 B0 c0 d0, e = .returned (vV A0 B0 A3 A4 A5 c0 d0 c3 c4 c5 (tabOf s).1 s) ∧ ROwn w' w.heap.size A0 B0 c0 d0 (tabOf s).1 ∧ Below w.heap.size w w' := by
 have HS := As.mk hs
 have HN := As.mk (fun (W : World) (hb : Below w.heap.size w W) => new_ref c1 c3 c4 c5 (HS.out.below hb) h hc3)
 have hz := zeroV
 generalize (tabOf s).1 = E at *
 unfold spV at HN
 unfold vV at HN
 unfold spV vV
 clear h hs
 have HB0 := As.mk (below_alloc (below_alloc (Below.refl w.heap.size w) (.cells #[.bool false, .slice A1 s.M.length c1, .slice none 0 0, .slice A3 s.X.length c3, .slice A4 s.C.length c4, .slice A5 s.J.length c5] 95)) (.cells #[.slice none 0 0, .slice none 0 0, .slice none 0 0, .slice none 0 0, .slice none 0 0] 38))
 have HY0 := As.mk (show ((w.alloc (.cells #[.bool false, .slice A1 s.M.length c1, .slice none 0 0, .slice A3 s.X.length c3, .slice A4 s.C.length c4, .slice A5 s.J.length c5] 95)).alloc (.cells #[.slice none 0 0, .slice none 0 0, .slice none 0 0, .slice none 0 0, .slice none 0 0] 38)).heap[w.heap.size + 1]? = some (.cells #[.slice none 0 0, .slice none 0 0, .slice none 0 0, .slice none 0 0, .slice none 0 0] 38 (0, 0)) from by have := (Go.MapKept.heap_alloc (w.alloc (.cells #[.bool false, .slice A1 s.M.length c1, .slice none 0 0, .slice A3 s.X.length c3, .slice A4 s.C.length c4, .slice A5 s.J.length c5] 95)) (.cells #[.slice none 0 0, .slice none 0 0, .slice none 0 0, .slice none 0 0, .slice none 0 0] 38)).1; simpa using this)
 go_enter Tryz.func52, Tryz.ntmps52
 go_wp2_with (go_at_call 90; refine (HN.out _ HB0.out).mono ?_; rintro e w2 ⟨A0, B0, c0, d0, rfl, ho, hb⟩; have HB2 := As.mk (bt_ HB0.out hb); have HY2 := As.mk ((hb.block _ (blk_lt HY0.out)).trans HY0.out); have hba := below_alloc (Below.refl w2.heap.size w2) (.cells #[.slice A0 (bL E).length c0, .slice B0 (mL E).length d0, .slice A4 s.C.length c4, .slice A5 s.J.length c5, .slice A3 s.X.length c3] 38); have HB3 := As.mk (bt_ HB2.out hba); have HY3 := As.mk ((hba.block _ (blk_lt HY2.out)).trans HY2.out); have HO3 := As.mk ((ho.below hba).lower HB0.out.size); clear hba hb ho HN HB0 HY0 HB2 HY2; have z0 := frozen_of HY3.out 0; have z1 := frozen_of HY3.out 1; have z2 := frozen_of HY3.out 2; have z3 := frozen_of HY3.out 3; have z4 := frozen_of HY3.out 4; have y0 := cell_of (i := 0) HY3.out rfl; have y1 := cell_of (i := 1) HY3.out rfl; have y2 := cell_of (i := 2) HY3.out rfl; have y3 := cell_of (i := 3) HY3.out rfl; have y4 := cell_of (i := 4) HY3.out rfl)
 refine bodyPost_ret (v := .agg #[.slice A0 (bL E).length c0, .slice B0 (mL E).length d0, .slice A4 s.C.length c4, .slice A5 s.J.length c5, .slice A3 s.X.length c3]) ?_ rfl ⟨A0, B0, c0, d0, rfl, ?_, ?_⟩
 ·simp only [results, show Tryz.f52.results = #[.cell 2 38] from rfl]
  first | (go_simp; done) | (go_simp; rfl)
 ·have g0 := blk_set HY3.out 0 (.slice A0 (bL E).length c0)
  have g1 := blk_set g0 1 (.slice B0 (mL E).length d0)
  have g2 := blk_set g1 2 (.slice A4 s.C.length c4)
  have g3 := blk_set g2 3 (.slice A5 s.J.length c5)
  exact ((((HO3.out.setV HY3.out 0 _).setV g0 1 _).setV g1 2 _).setV g2 3 _).setV g3 4 _
 ·have hle : w.heap.size ≤ w.heap.size + 1 := by omega
  exact ((((HB3.out.setCell (p := ⟨w.heap.size + 1, 0, none⟩) hle _).setCell (p := ⟨w.heap.size + 1, 1, none⟩) hle _).setCell (p := ⟨w.heap.size + 1, 2, none⟩) hle _).setCell (p := ⟨w.heap.size + 1, 3, none⟩) hle _).setCell (p := ⟨w.heap.size + 1, 4, none⟩) hle _
end Go.Proofs.YtkffhgiiejbnaaaGreat.Rt
