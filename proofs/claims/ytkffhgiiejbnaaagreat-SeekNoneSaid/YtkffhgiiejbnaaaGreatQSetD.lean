import Derived.Test.YtkffhgiiejbnaaaGreatQSetB
import Derived.Test.YtkffhgiiejbnaaaGreatQ01
set_option maxRecDepth 100000
set_option maxHeartbeats 1000000
set_option linter.unusedVariables false
set_option linter.unusedSimpArgs false
namespace Go.Proofs.YtkffhgiiejbnaaaGreat.Mk
open Go.RowKit YtkffhgiiejbnaaaGreatW.PrintWords YtkffhgiiejbnaaaGreatW.PrintLast YtkffhgiiejbnaaaGreatW.PrintMore Rf Aid Mp
theorem idx_spec {S : List Sp} {s : ByteArray} {j : Nat} (h : idx S s = some j) : (rd_T93 S j).f1 = s := by
 obtain ⟨hl, hd, _⟩ := List.findIdx?_eq_some_iff_getElem.1 h
 unfold rd_T93
 rw [Int.toNat_natCast, List.getD_eq_getElem?_getD, List.getElem?_eq_getElem hl]
 simpa using hd
theorem atN_spec {S : List Sp} {s : ByteArray} {j : Nat} : ∀ {n : Nat}, atN S s n = some j → j < S.length ∧ ∃ m, 0 < m ∧ m ≤ n ∧ (rd_T93 S j).f1 = s.extract 0 m
 | 0, h => by simp [atN] at h
 | n + 1, h => by
  rw [atN_succ] at h
  split at h
  ·exact ⟨idx_lt h, n + 1, by omega, by omega, idx_spec h⟩
  ·obtain ⟨h1, m, h2, h3, h4⟩ := atN_spec h
   exact ⟨h1, m, h2, by omega, h4⟩
theorem atP_spec {S : List Sp} {s : ByteArray} {j : Nat} (h : atP S s = some j) : j < S.length ∧ 0 < (rd_T93 S j).f1.size ∧ (rd_T93 S j).f1.size ≤ s.size := by
 unfold atP at h
 split at h
 ·split at h
  ·obtain ⟨h1, m, h2, h3, h4⟩ := atN_spec h
   have : (rd_T93 S j).f1.size = m := by rw [h4, ByteArray.size_extract]; omega
   exact ⟨h1, by omega, by omega⟩
  ·cases h
 ·cases h
theorem R_away {α : Type} {d : Kd α} {e : Nat} {w : World} {base : Nat} {ok : Nat → Prop} {v : Value} {xs : List α} (h : d.R e w base ok v xs) {b : Nat} (hb : w.heap.size ≤ b) : some b ≠ v.ownBlock := by
 obtain ⟨_, ho⟩ := Kd.R_own h
 intro e1
 have := own_lt ho b e1.symm
 omega
theorem parse_any {p : Nat} {S : List Sp} {w : World} (h : SetAt w p S) (s : ByteArray) (hs : s.size ≤ 17592186044414) :
  Calls Tryz.prog 68 #[.pointer (some ⟨p, 0, none⟩), .string s] w fun e w' => ∃ v, e = .returned v ∧ Kd.R (Kd.int .i64) 3 w' w.heap.size (fun _ => True) v (parseP S s) ∧ Below w.heap.size w w' := by
 unfold parseP
 obtain ⟨R, hR⟩ : ∃ R, parseF S s s.size 0 = R := ⟨_, rfl⟩
 have hRl : R.length ≤ s.size := by rw [← hR]; exact parseF_length S s s.size 0
 rw [hR]
 have HR := As.mk hR
 have HS := As.mk h
 have HB := As.mk (Below.refl w.heap.size w)
 have HRl := As.mk hRl
 clear hR h hRl
 go_enter Tryz.func68, Tryz.ntmps68
 go_wp2
 go_loopg [5, 6] s.size (fun k v5 v6 w' => ∃ (xs : List Int) (i : Nat), v6 = .int .i64 i ∧ i ≤ s.size ∧ As (xs ++ parseF S s k i = R) ∧ As (s.size - i ≤ k) ∧ As (Kd.R (Kd.int .i64) 3 w' w.heap.size (fun _ => True) v5 xs) ∧ As (Below w.heap.size w w'))
 case atStart => exact ⟨[], 0, rfl, Nat.zero_le _, ⟨by simpa using HR.out⟩, ⟨by omega⟩, ⟨Kd.R_nil _ _ _ _ _⟩, HB⟩
 case round =>
  clear HR HB
  obtain ⟨xs, i, rfl, hi, HA, HK, HO, HB⟩ := hrel
  by_cases hlt : i < s.size
  ·have hk : ∃ k1, gk = k1 + 1 := ⟨gk - 1, by have := HK.out; omega⟩
   obtain ⟨k1, rfl⟩ := hk
   have hltI : (i : Int) < s.size := by omega
   have hsl : ∀ w', (Instr.slice 9 (.string s) (some (.int .i64 (i : Int))) none none).run Tryz.prog w' = .ok (.string (s.extract i s.size)) w' := fun w' => slice_from Tryz.underlying9 s _ i rfl (by omega) w'
   have hlx : xs.length + 1 ≤ R.length := by
    have := HA.out
    rw [← this, List.length_append]
    have : 1 ≤ (parseF S s (k1 + 1) i).length := by
     cases ha : atP S (s.extract i s.size) with
     | none => rw [parseF_byte hlt ha]; simp
     | some j => rw [parseF_mark hlt ha]; simp
    omega
   have HL := As.mk hlx
   have hsz : (s.extract i s.size).size ≤ 9223372036854775807 := by rw [ByteArray.size_extract]; omega
   have HZ := As.mk hsz
   clear hlx hsz
   cases ha : atP S (s.extract i s.size) with
   | none =>
    have hA := HA.out
    rw [parseF_byte hlt ha] at hA
    have HA' := As.mk hA
    have Ha := As.mk ha
    clear hA HA ha
    have hb := bt_at s i
    have hbr := bt_range s i
    simp only [Int.toNat_natCast] at hb
    go_wp2_with (first | (go_at_call 96; refine (at_any (HS.out.below HB.out) (s.extract i s.size) HZ.out).mono ?_; rintro e w1 ⟨rfl, ⟨n1, rfl⟩⟩; rw [Ha.out]; unfold markT markV) | ((with_reducible refine gate_builtin (b := .append) (xs := #[.tmp 25, .tmp 30]) rfl ?_); at_builtin; refine Kd.R_append (Kd.int .i64) (w0 := w) w.heap.size rfl (.tmp 25) (.tmp 30) 41 3 (.int .i64 0) 8 rfl Tryz.underlying41 info3 rfl (by decide) (by omega) _ xs (bt s i) [.int .i64 (bt s i)] (fun _ => True) (fun _ => False) rfl ?aX ?aP (fun _ hk => hk.elim) ?aF ?aO ?aB ?aS ?aL ?_; (case aX => first | exact rfl | (simp [Act.eval, go_sem]; done)); (case aP => exact rfl); (case aF => exact (fun _ _ => trivial)); (case aO => exact (by (with_reducible repeat (first | apply Kd.R_alloc | apply Kd.R_drewN | apply Kd.R_drew)); exact HO.out)); (case aB => exact (by repeat (first | (with_reducible first | exact HB.out | apply below_alloc | apply pw_below_drewN | apply below_drew1) | exact HB.out))); (case aS => exact (below_size (by repeat (first | (with_reducible first | exact HB.out | apply below_alloc | apply pw_below_drewN | apply below_drew1) | exact HB.out)))); (case aL => (have := HL.out; have := HRl.out; omega)); intro v1 w1 ho hb hg hat; have HO_ := As.mk ho; have HB_ := As.mk hb; clear HO HB ho hb hg hat; have HO := HO_; have HB := HB_; clear HO_ HB_))
    go_roundg k1
    case measure => omega
    case rel => exact ⟨xs ++ [bt s i], i + 1, by go_num, by omega, ⟨by rw [List.append_assoc]; exact HA'.out⟩, ⟨by have := HK.out; omega⟩, HO, HB⟩
   | some j =>
    obtain ⟨q1, q2, q3⟩ := atP_spec ha
    rw [ByteArray.size_extract] at q3
    have hA := HA.out
    rw [parseF_mark hlt ha] at hA
    have HA' := As.mk hA
    have Ha := As.mk ha
    have hj1 : (-1 - (j : Int)) < 0 := by omega
    have hj2 : -(S.length : Int) ≤ -1 - (j : Int) := by omega
    have hP : hasP S (-1 - (j : Int)) = (rd_T93 S j, true) := by
     unfold hasP
     rw [if_pos ⟨hj1, hj2⟩, show -1 - (-1 - (j : Int)) = (j : Int) from by omega]
    have HP := As.mk hP
    clear hA HA ha hP q1 hj2
    have q3' : (rd_T93 S j).f1.size ≤ s.size - i := by omega
    clear q3
    generalize hx : rd_T93 S j = x at *
    clear hx
    go_wp2_with (first | (go_at_call 96; refine (at_any (HS.out.below HB.out) (s.extract i s.size) HZ.out).mono ?_; rintro e w1 ⟨rfl, ⟨n1, rfl⟩⟩; rw [Ha.out]; unfold markT markV) | (go_at_call 97; refine (has_any (HS.out.below (pw_below_drewN HB.out _)) _).mono ?_; rintro e w2 ⟨rfl, hb1⟩; rw [HP.out]; unfold spV; (have HB_ := As.mk (below_then (pw_below_drewN HB.out _) (by have := HB.out.size; simpa using this) hb1)); (have HO_ := As.mk (Kd.R_below (Kd.R_drewN HO.out _) hb1)); clear HB HO; (have HB := HB_); (have HO := HO_); clear HB_ HO_; clear hb1) | ((with_reducible refine gate_builtin (b := .append) (xs := #[.tmp 40, .tmp 42]) rfl ?_); at_builtin; refine Kd.R_append (Kd.int .i64) (w0 := w) w.heap.size rfl (.tmp 40) (.tmp 42) 41 3 (.int .i64 0) 8 rfl Tryz.underlying41 info3 rfl (by decide) (by omega) _ xs (-1 - (j : Int)) [.int .i64 (-1 - (j : Int))] (fun _ => True) (fun _ => False) rfl ?aX ?aP (fun _ hk => hk.elim) ?aF ?aO ?aB ?aS ?aL ?_; (case aX => first | exact rfl | (simp [Act.eval, go_sem]; done)); (case aP => exact rfl); (case aF => exact (fun _ _ => trivial)); (case aO => exact (by (with_reducible repeat (first | apply Kd.R_alloc | apply Kd.R_drewN | apply Kd.R_drew)); exact HO.out)); (case aB => exact (by repeat (first | (with_reducible first | exact HB.out | apply below_alloc | apply pw_below_drewN | apply below_drew1) | exact HB.out))); (case aS => exact (below_size (by repeat (first | (with_reducible first | exact HB.out | apply below_alloc | apply pw_below_drewN | apply below_drew1) | exact HB.out)))); (case aL => (have := HL.out; have := HRl.out; omega)); intro v1 w1 ho hb hg hat; (have hx := cell_grown hg (a := ⟨w2.heap.size, 1, none⟩) (v := .string x.f1) (by simp [go_sem]) (R_away HO.out (Nat.le_refl _))); have HO_ := As.mk ho; have HB_ := As.mk hb; clear HO HB ho hb hg hat; have HO := HO_; have HB := HB_; clear HO_ HB_))
    go_roundg k1
    case measure => omega
    case rel => exact ⟨xs ++ [-1 - (j : Int)], i + x.f1.size, by go_num, by omega, ⟨by rw [List.append_assoc]; exact HA'.out⟩, ⟨by have := HK.out; omega⟩, HO, HB⟩
  ·have hA := HA.out
   rw [parseF_nil hlt, List.append_nil] at hA
   subst hA
   have hge : ¬ (i : Int) < s.size := by omega
   go_wp2
   go_ret
   exact ⟨_, rfl, HO.out, HB.out⟩
end Go.Proofs.YtkffhgiiejbnaaaGreat.Mk
namespace Go.Proofs.YtkffhgiiejbnaaaGreat.Mk
open Go.RowKit YtkffhgiiejbnaaaGreatW.PrintWords YtkffhgiiejbnaaaGreatW.PrintLast YtkffhgiiejbnaaaGreatW.PrintMore Rf Aid Mp
attribute [local go_sem] Aid.max_two Aid.min_two min2_mn max2_mx
def goodB (x : Sp) : Bool := decide (0 ≤ x.f0 ∧ x.f0 ≤ 1073741824 ∧ 1 ≤ x.f1.size ∧ x.f1.size ≤ 64)
theorem right_any (x : Sp) (w : World) : Calls Tryz.prog 172 #[spV x] w fun e w' => e = .returned (.bool (goodB x)) ∧ Below w.heap.size w w' := by
 refine mark_right.calls x.f0 x.f1 (goodB x) w ?_
 unfold mark_right.f goodB
 by_cases h0 : x.f0 ≥ 0
 ·rw [if_pos h0]
  by_cases h1 : x.f0 ≤ 1073741824
  ·rw [if_pos h1]
   by_cases h2 : x.f1.size = 0
   ·rw [if_pos (toList_nil h2)]; congr 1; symm; simp; omega
   ·rw [if_neg (fun e => by have := toList_some (s := x.f1) (by omega); rw [e] at this; simp at this)]
    congr 1; rw [decide_eq_decide]; omega
  ·rw [if_neg h1]; congr 1; symm; simp; omega
 ·rw [if_neg h0]; congr 1; symm; simp; omega
structure SetRaw (w : World) (base p : Nat) (v : Value) (bi bt : Nat) (R I T : List Sp) (F : Nat → Bool) (M : Nat) : Prop where
 lp : base ≤ p
 li : base ≤ bi
 lt : base ≤ bt
 nit : bi ≠ bt
 blk : ∃ cs, w.heap[p]? = some (.cells cs 192 (0, 0))
 rows : Kd.R kSp 93 w base (fun _ => True) v R
 c0 : w.cell? ⟨p, 0, none⟩ = some v
 c1 : w.cell? ⟨p, 1, none⟩ = some (.map (some bi))
 c2 : w.cell? ⟨p, 2, none⟩ = some (.map (some bt))
 ids : MapIs encInt w bi (idl I)
 texts : MapIs encStr w bt (txl T)
 first : ∀ i, i < 256 → w.cell? ⟨p, 3 + i, none⟩ = some (.bool (F i))
 most : w.cell? ⟨p, 259, none⟩ = some (.int .i64 (M : Int))
theorem SetRaw.below {w w' : World} {base p : Nat} {v : Value} {bi bt : Nat} {R I T : List Sp} {F : Nat → Bool} {M : Nat} (h : SetRaw w base p v bi bt R I T F M) (hb : Below w.heap.size w w') : SetRaw w' base p v bi bt R I T F M := by
 obtain ⟨cs, hcs⟩ := h.blk
 exact ⟨h.lp, h.li, h.lt, h.nit, ⟨cs, (hb.block _ (Array.getElem?_eq_some_iff.1 hcs).1).trans hcs⟩, Kd.R_below h.rows hb, pw_cell_below hb h.c0, pw_cell_below hb h.c1, pw_cell_below hb h.c2,
  h.ids.of_block (hb.block _ h.ids.lt), h.texts.of_block (hb.block _ h.texts.lt), fun i hi => pw_cell_below hb (h.first i hi), pw_cell_below hb h.most⟩
theorem SetRaw.npi {w : World} {base p : Nat} {v : Value} {bi bt : Nat} {R I T : List Sp} {F : Nat → Bool} {M : Nat} (h : SetRaw w base p v bi bt R I T F M) : p ≠ bi := fun e => by
 obtain ⟨cs, h1⟩ := h.blk; obtain ⟨es, cl, h2, _⟩ := h.ids; rw [e, h2] at h1; cases h1
theorem SetRaw.npt {w : World} {base p : Nat} {v : Value} {bi bt : Nat} {R I T : List Sp} {F : Nat → Bool} {M : Nat} (h : SetRaw w base p v bi bt R I T F M) : p ≠ bt := fun e => by
 obtain ⟨cs, h1⟩ := h.blk; obtain ⟨es, cl, h2, _⟩ := h.texts; rw [e, h2] at h1; cases h1
theorem R_but {α : Type} {d : Kd α} {e : Nat} {w w' : World} {base b : Nat} {ok : Nat → Prop} {v : Value} {xs : List α} (h : d.R e w base ok v xs) (hb : But b w w') {es : Array MapEntry} {cl : Nat} (hm : w.heap[b]? = some (.map es cl)) : d.R e w' base ok v xs :=
 Kd.R_mono (Kd.R_move (Kd.R_bound h) (fun k hk => hb.block k (by
  obtain ⟨_, _, _, q, hq, cells, hc⟩ := hk
  rintro rfl
  rw [hm] at hc
  cases hc))) (fun k hk => hk.1)
theorem SetRaw.putI {w w' : World} {base p : Nat} {v : Value} {bi bt : Nat} {R I T I' : List Sp} {F : Nat → Bool} {M : Nat} (h : SetRaw w base p v bi bt R I T F M) (hb : But bi w w') (hm : MapIs encInt w' bi (idl I')) : SetRaw w' base p v bi bt R I' T F M := by
 obtain ⟨cs, hcs⟩ := h.blk
 obtain ⟨es, cl, he, _⟩ := h.ids
 exact ⟨h.lp, h.li, h.lt, h.nit, ⟨cs, (hb.block _ h.npi).trans hcs⟩, R_but h.rows hb he, (hb.cell (a := ⟨p, 0, none⟩) h.npi).trans h.c0, (hb.cell (a := ⟨p, 1, none⟩) h.npi).trans h.c1, (hb.cell (a := ⟨p, 2, none⟩) h.npi).trans h.c2, hm,
  h.texts.of_block (hb.block _ (Ne.symm h.nit)), fun i hi => (hb.cell (a := ⟨p, 3 + i, none⟩) h.npi).trans (h.first i hi), (hb.cell (a := ⟨p, 259, none⟩) h.npi).trans h.most⟩
theorem SetRaw.putT {w w' : World} {base p : Nat} {v : Value} {bi bt : Nat} {R I T T' : List Sp} {F : Nat → Bool} {M : Nat} (h : SetRaw w base p v bi bt R I T F M) (hb : But bt w w') (hm : MapIs encStr w' bt (txl T')) : SetRaw w' base p v bi bt R I T' F M := by
 obtain ⟨cs, hcs⟩ := h.blk
 obtain ⟨es, cl, he, _⟩ := h.texts
 exact ⟨h.lp, h.li, h.lt, h.nit, ⟨cs, (hb.block _ h.npt).trans hcs⟩, R_but h.rows hb he, (hb.cell (a := ⟨p, 0, none⟩) h.npt).trans h.c0, (hb.cell (a := ⟨p, 1, none⟩) h.npt).trans h.c1, (hb.cell (a := ⟨p, 2, none⟩) h.npt).trans h.c2,
  h.ids.of_block (hb.block _ h.nit), hm, fun i hi => (hb.cell (a := ⟨p, 3 + i, none⟩) h.npt).trans (h.first i hi), (hb.cell (a := ⟨p, 259, none⟩) h.npt).trans h.most⟩
theorem set_ne (w : World) (p i j : Nat) (u : Value) (h : i ≠ j) : (w.setCell ⟨p, j, none⟩ u).cell? ⟨p, i, none⟩ = w.cell? ⟨p, i, none⟩ := by
 simp only [World.cell?, World.setCell, Array.getElem?_modify, if_true]
 cases w.heap[p]? with
 | none => rfl
 | some o => cases o <;> simp [Array.getElem?_setIfInBounds, Ne.symm h]
theorem set_eq {w : World} {p j : Nat} {u v : Value} (h : w.cell? ⟨p, j, none⟩ = some v) : (w.setCell ⟨p, j, none⟩ u).cell? ⟨p, j, none⟩ = some u := World.cell?_setCell_same' w _ _ (by rw [h]; rfl)
theorem blk_set {w : World} {p t : Nat} {cs : Array Value} (h : w.heap[p]? = some (.cells cs t (0, 0))) (j : Nat) (u : Value) : ∃ cs', (w.setCell ⟨p, j, none⟩ u).heap[p]? = some (.cells cs' t (0, 0)) := by
 simp [World.setCell, Array.getElem?_modify, h]
theorem SetRaw.store {w : World} {base p : Nat} {v v' : Value} {bi bt : Nat} {R R' I T : List Sp} {F F' : Nat → Bool} {M M' : Nat} (h : SetRaw w base p v bi bt R I T F M) (j : Nat) (u : Value) (hj1 : j ≠ 1) (hj2 : j ≠ 2)
  (hr : Kd.R kSp 93 w base (fun _ => True) v' R') (h0 : if j = 0 then v' = u else v' = v)
  (hf : ∀ i, i < 256 → if j = 3 + i then u = .bool (F' i) else F' i = F i) (hm : if j = 259 then u = .int .i64 (M' : Int) else M' = M) : SetRaw (w.setCell ⟨p, j, none⟩ u) base p v' bi bt R' I T F' M' := by
 obtain ⟨cs, hcs⟩ := h.blk
 refine ⟨h.lp, h.li, h.lt, h.nit, blk_set hcs j u, Kd.R_set hr hcs (by decide) j u, ?_, (set_ne w p 1 j u (Ne.symm hj1)).trans h.c1, (set_ne w p 2 j u (Ne.symm hj2)).trans h.c2, h.ids.of_block (Below.heap_setCell _ _ _ _ (Ne.symm h.npi)), h.texts.of_block (Below.heap_setCell _ _ _ _ (Ne.symm h.npt)), ?_, ?_⟩
 ·by_cases e : j = 0
  ·subst e; rw [if_pos rfl] at h0; rw [h0]; exact set_eq h.c0
  ·rw [if_neg e] at h0; rw [h0]; exact (set_ne w p 0 j u (Ne.symm e)).trans h.c0
 ·intro i hi
  have := hf i hi
  by_cases e : j = 3 + i
  ·subst e; rw [if_pos rfl] at this; rw [this]; exact set_eq (h.first i hi)
  ·rw [if_neg e] at this; rw [this]; exact (set_ne w p (3 + i) j u (Ne.symm e)).trans (h.first i hi)
 ·by_cases e : j = 259
  ·subst e; rw [if_pos rfl] at hm; rw [hm]; exact set_eq h.most
  ·rw [if_neg e] at hm; rw [hm]; exact (set_ne w p 259 j u (Ne.symm e)).trans h.most
theorem SetRaw.grown {w w' : World} {base p : Nat} {v : Value} {bi bt : Nat} {R I T : List Sp} {F : Nat → Bool} {M : Nat} (h : SetRaw w base p v bi bt R I T F M) (hg : w.grownBy w' v.ownBlock) :
  (∀ i x, w.cell? ⟨p, i, none⟩ = some x → w'.cell? ⟨p, i, none⟩ = some x) ∧ (∃ cs, w'.heap[p]? = some (.cells cs 192 (0, 0))) ∧ MapIs encInt w' bi (idl I) ∧ MapIs encStr w' bt (txl T) := by
 obtain ⟨cs, hcs⟩ := h.blk
 have hp : some p ≠ v.ownBlock := Kd.R_ne h.rows hcs (by decide)
 have hlt : p < w.heap.size := (Array.getElem?_eq_some_iff.1 hcs).1
 have hmap : ∀ b es cl, w.heap[b]? = some (Obj.map es cl) → some b ≠ v.ownBlock := fun b es cl hm e => by
  obtain ⟨_, ho⟩ := Kd.R_own h.rows
  obtain ⟨cells, hc⟩ := own_typed ho b e.symm
  rw [hm] at hc; cases hc
 obtain ⟨es1, cl1, he1, _⟩ := id h.ids
 obtain ⟨es2, cl2, he2, _⟩ := id h.texts
 exact ⟨fun i x hx => cell_grown hg hx hp, ⟨cs, (hg.block p hlt hp).trans hcs⟩, h.ids.of_block (hg.block _ h.ids.lt (hmap _ _ _ he1)), h.texts.of_block (hg.block _ h.texts.lt (hmap _ _ _ he2))⟩
theorem SetRaw.close {w w' : World} {base p : Nat} {v v' : Value} {bi bt : Nat} {R R' I T : List Sp} {F : Nat → Bool} {M : Nat} (h : SetRaw w base p v bi bt R I T F M) (hg : w.grownBy w' v.ownBlock) (ho : Kd.R kSp 93 w' base (fun _ => True) v' R') :
  SetRaw (w'.setCell ⟨p, 0, none⟩ v') base p v' bi bt R' I T F M := by
 obtain ⟨g1, ⟨cs, hcs⟩, g3, g4⟩ := h.grown hg
 exact ⟨h.lp, h.li, h.lt, h.nit, blk_set hcs 0 v', Kd.R_set ho hcs (by decide) 0 v', set_eq (g1 0 _ h.c0), (set_ne w' p 1 0 v' (by omega)).trans (g1 1 _ h.c1), (set_ne w' p 2 0 v' (by omega)).trans (g1 2 _ h.c2),
  g3.of_block (Below.heap_setCell _ _ _ _ (Ne.symm h.npi)), g4.of_block (Below.heap_setCell _ _ _ _ (Ne.symm h.npt)), fun i hi => (set_ne w' p (3 + i) 0 v' (by omega)).trans (g1 (3 + i) _ (h.first i hi)), (set_ne w' p 259 0 v' (by omega)).trans (g1 259 _ h.most)⟩
structure SetOwn (w : World) (base p : Nat) (v : Value) (bi bt : Nat) (S : List Sp) : Prop where
 good : ∀ x ∈ S, 0 ≤ x.f0 ∧ x.f0 ≤ 1073741824 ∧ 1 ≤ x.f1.size ∧ x.f1.size ≤ 64
 few : S.length ≤ 32
 apartI : (S.map (·.f0)).Nodup
 apartT : (S.map (·.f1)).Nodup
 raw : SetRaw w base p v bi bt S S S (firstOf S) (mostOf S)
theorem SetOwn.below {w w' : World} {base p : Nat} {v : Value} {bi bt : Nat} {S : List Sp} (h : SetOwn w base p v bi bt S) (hb : Below w.heap.size w w') : SetOwn w' base p v bi bt S :=
 ⟨h.good, h.few, h.apartI, h.apartT, h.raw.below hb⟩
theorem goodB_spec {x : Sp} (h : goodB x = true) : 0 ≤ x.f0 ∧ x.f0 ≤ 1073741824 ∧ 1 ≤ x.f1.size ∧ x.f1.size ≤ 64 := by unfold goodB at h; exact of_decide_eq_true h
theorem SetOwn.snoc {w w' : World} {base p : Nat} {v v' : Value} {bi bt : Nat} {S : List Sp} {x : Sp} (h : SetOwn w base p v bi bt S) (hg : goodB x = true) (hf : S.length < 32) (hi : idxI S x.f0 = none) (ht : idx S x.f1 = none)
  (hr : SetRaw w' base p v' bi bt (S ++ [x]) (S ++ [x]) (S ++ [x]) (firstOf (S ++ [x])) (mostOf (S ++ [x]))) : SetOwn w' base p v' bi bt (S ++ [x]) := by
 refine ⟨?_, by simp; omega, ?_, ?_, hr⟩
 ·intro y hy
  rcases List.mem_append.1 hy with hy | hy
  ·exact h.good y hy
  ·rw [List.mem_singleton.1 hy]; exact goodB_spec hg
 ·rw [List.map_append, List.nodup_append]
  refine ⟨h.apartI, by simp, ?_⟩
  intro a ha b hb e
  simp only [List.map_cons, List.map_nil, List.mem_singleton] at hb
  obtain ⟨y, hy, rfl⟩ := List.mem_map.1 ha
  unfold idxI at hi
  have := List.findIdx?_eq_none_iff.1 hi y hy
  simp at this
  exact this (e.trans hb)
 ·rw [List.map_append, List.nodup_append]
  refine ⟨h.apartT, by simp, ?_⟩
  intro a ha b hb e
  simp only [List.map_cons, List.map_nil, List.mem_singleton] at hb
  obtain ⟨y, hy, rfl⟩ := List.mem_map.1 ha
  unfold idx at ht
  have := List.findIdx?_eq_none_iff.1 ht y hy
  simp at this
  exact this (e.trans hb)
theorem SetOwn.at {w : World} {base p : Nat} {v : Value} {bi bt : Nat} {S : List Sp} (h : SetOwn w base p v bi bt S) : SetAt w p S := by
 obtain ⟨A, c, rfl, h2, h3⟩ := Kd.R_reads h.raw.rows
 exact ⟨h.good, h.few, h.apartI, h.apartT, ⟨A, c, h.raw.c0, h2, h3⟩, ⟨bi, h.raw.c1, h.raw.ids⟩, ⟨bt, h.raw.c2, h.raw.texts⟩, h.raw.first, h.raw.most⟩
def addE (S : List Sp) (x : Sp) : Int := if goodB x = true then (if S.length < 32 then (if (idxI S x.f0).isSome || (idx S x.f1).isSome then 10 else 0) else 3) else 1
theorem add_no {w : World} {base p : Nat} {v : Value} {bi bt : Nat} {S : List Sp} (h : SetOwn w base p v bi bt S) (x : Sp) (hne : addE S x ≠ 0) :
  Calls Tryz.prog 152 #[.pointer (some ⟨p, 0, none⟩), spV x] w fun e w' => e = .returned (.int .i64 (addE S x)) ∧ Below w.heap.size w w' := by
 obtain ⟨A, c, rfl, hc, _⟩ := Kd.R_reads h.raw.rows
 have hp : p < w.heap.size := World.block_lt_of_cell? w _ h.raw.c0
 have c0 := h.raw.c0
 have c1 := h.raw.c1
 have c2 := h.raw.c2
 have h' := h.below (below_alloc (Below.refl w.heap.size w) (.cells #[.int .i64 x.f0, .string x.f1] 93))
 have hL1 : ∀ m, (Instr.lookup 188 (.map (some bi)) (.int .i64 x.f0) true).run Tryz.prog ((w.alloc (.cells #[.int .i64 x.f0, .string x.f1] 93)).drewN m) = .ok (.tuple #[(get? (idl S) x.f0).getD (.int .i64 0), .bool (get? (idl S) x.f0).isSome]) ((w.alloc (.cells #[.int .i64 x.f0, .string x.f1] 93)).drewN m) := fun m =>
  lookup_ok (E := encInt) Tryz.underlying188 Tryz.underlying3 (h'.raw.ids.of_block (by simp)) x.f0 (by kernel_rfl)
 have hL2 : ∀ m, (Instr.lookup 189 (.map (some bt)) (.string x.f1) true).run Tryz.prog ((w.alloc (.cells #[.int .i64 x.f0, .string x.f1] 93)).drewN m) = .ok (.tuple #[(get? (txl S) x.f1).getD (.int .i64 0), .bool (get? (txl S) x.f1).isSome]) ((w.alloc (.cells #[.int .i64 x.f0, .string x.f1] 93)).drewN m) := fun m =>
  lookup_ok (E := encStr) Tryz.underlying189 Tryz.underlying9 (h'.raw.texts.of_block (by simp)) x.f1 (by kernel_rfl)
 rw [get_idl] at hL1
 rw [get_txl] at hL2
 have HF := h.few
 clear h h'
 simp only [Option.isSome_map] at hL1 hL2
 generalize (Option.map (fun i : Nat => Value.int IntKind.i64 (i : Int)) (idxI S x.f0)).getD (.int .i64 0) = g1 at hL1
 generalize (Option.map (fun i : Nat => Value.int IntKind.i64 (i : Int)) (idx S x.f1)).getD (.int .i64 0) = g2 at hL2
 have HX := As.mk (right_any x)
 unfold spV at HX
 show Calls Tryz.prog _ #[_, .agg #[.int .i64 x.f0, .string x.f1]] w _
 unfold addE at *
 cases hg : goodB x with
 | false =>
  rw [if_neg (by simp)]
  rw [hg] at HX
  clear hg hne
  generalize (idxI S x.f0).isSome = b1 at hL1
  generalize (idx S x.f1).isSome = b2 at hL2
  go_enter Tryz.func152, Tryz.ntmps152
  go_wp2
  go_quiet (fail)
  go_wp2
  go_quiet (fail)
  go_wp2_with (go_at_call 172; refine (HX.out _).mono ?_; rintro e w1 ⟨rfl, hb1⟩)
  go_ret
  exact ⟨rfl, bt_ (pw_below_drewN (below_alloc (Below.refl _ _) _) _) hb1⟩
 | true =>
  rw [hg] at HX hne
  rw [if_pos rfl] at hne ⊢
  clear hg
  by_cases hf : S.length < 32
  ·rw [if_pos hf] at hne ⊢
   have hf' : ¬ (32 : Int) ≤ (S.length : Int) := by omega
   clear HF
   cases hb : ((idxI S x.f0).isSome || (idx S x.f1).isSome) with
   | false => rw [hb] at hne; simp at hne
   | true =>
    rw [if_pos rfl]
    generalize (idxI S x.f0).isSome = b1 at hL1 hb
    generalize (idx S x.f1).isSome = b2 at hL2 hb
    clear hne
    cases b1 with
    | true =>
     clear hb
     go_enter Tryz.func152, Tryz.ntmps152
     go_wp2
     go_quiet (fail)
     go_wp2
     go_quiet (fail)
     go_wp2_with (go_at_call 172; refine (HX.out _).mono ?_; rintro e w1 ⟨rfl, hb1⟩; have HB := bt_ (pw_below_drewN (below_alloc (Below.refl _ _) _) _) hb1; have c0' := pw_cell_below HB c0; clear hb1)
     go_ret
     exact ⟨rfl, HB⟩
    | false =>
     obtain rfl : b2 = true := by simpa using hb
     clear hb
     go_enter Tryz.func152, Tryz.ntmps152
     go_wp2
     go_quiet (fail)
     go_wp2
     go_quiet (fail)
     go_wp2_with (go_at_call 172; refine (HX.out _).mono ?_; rintro e w1 ⟨rfl, hb1⟩; have HB := bt_ (pw_below_drewN (below_alloc (Below.refl _ _) _) _) hb1; have c0' := pw_cell_below HB c0; clear hb1)
     go_ret
     exact ⟨rfl, HB⟩
  ·rw [if_neg hf]
   have hf' : (32 : Int) ≤ (S.length : Int) := by omega
   clear hf hne
   generalize (idxI S x.f0).isSome = b1 at hL1
   generalize (idx S x.f1).isSome = b2 at hL2
   go_enter Tryz.func152, Tryz.ntmps152
   go_wp2
   go_quiet (fail)
   go_wp2
   go_quiet (fail)
   go_wp2_with (go_at_call 172; refine (HX.out _).mono ?_; rintro e w1 ⟨rfl, hb1⟩; have HB := bt_ (pw_below_drewN (below_alloc (Below.refl _ _) _) _) hb1; have c0' := pw_cell_below HB c0; clear hb1)
   go_ret
   exact ⟨rfl, HB⟩
end Go.Proofs.YtkffhgiiejbnaaaGreat.Mk
