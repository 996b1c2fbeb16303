import Derived.Test.YtkffhgiiejbnaaaGreatQSetE
set_option maxRecDepth 100000
set_option maxHeartbeats 2000000
set_option linter.unusedVariables false
set_option linter.unusedSimpArgs false
namespace Go.Proofs.YtkffhgiiejbnaaaGreat.Mk
open Go.RowKit YtkffhgiiejbnaaaGreatW.PrintWords YtkffhgiiejbnaaaGreatW.PrintLast YtkffhgiiejbnaaaGreatW.PrintMore Rf Aid Mp
def newF (S : List Sp) : List Sp → Nat → Nat × Int
 | [], n => (n, 0)
 | x :: l, n => if addE S x = 0 then newF (S ++ [x]) l (n + 1) else (n, addE S x)
def newP (l : List Sp) : Nat × Int := newF [] l 0
def SetV (w : World) (v : Value) : Option (List Sp) → Prop
 | none => v = .pointer none
 | some S => ∃ p, v = .pointer (some ⟨p, 0, none⟩) ∧ SetAt w p S
def setZero : Array Value := (([Value.slice none 0 0, Value.map none, Value.map none] ++ List.replicate 256 (Value.bool false)) ++ [Value.int IntKind.i64 0]).toArray
theorem setZero_run (w : World) : (zeroValue 192).run Tryz.prog w = .ok (.agg setZero) w := by kernel_rfl
theorem setZero_size : setZero.size = 260 := by kernel_rfl
def setNew (a b : Value) : Array Value := (setZero.setIfInBounds 1 a).setIfInBounds 2 b
theorem setNew_0 (a b : Value) : (setNew a b)[0]? = some (.slice none 0 0) := by kernel_rfl
theorem setNew_1 (a b : Value) : (setNew a b)[1]? = some a := by kernel_rfl
theorem setNew_2 (a b : Value) : (setNew a b)[2]? = some b := by kernel_rfl
theorem setNew_f (a b : Value) (i : Nat) (h : i < 256) : (setNew a b)[3 + i]? = some (.bool false) := by
 simp only [setNew, Array.getElem?_setIfInBounds]
 rw [if_neg (by omega), if_neg (by omega)]
 simp only [setZero, List.getElem?_toArray]
 rw [List.getElem?_append_left (by rw [List.length_append, List.length_replicate]; simp only [List.length_cons, List.length_nil]; omega), List.getElem?_append_right (by simp only [List.length_cons, List.length_nil]; omega), List.getElem?_replicate, if_pos (by simp only [List.length_cons, List.length_nil]; omega)]
theorem setNew_m (a b : Value) : (setNew a b)[259]? = some (.int .i64 0) := by kernel_rfl
theorem push3 {α : Type} (h : Array α) (a b c : α) : (((h.push a).push b).push c)[h.size]? = some a ∧ (((h.push a).push b).push c)[h.size + 1]? = some b ∧ (((h.push a).push b).push c)[h.size + 2]? = some c := by
 refine ⟨?_, ?_, ?_⟩
 ·rw [Array.getElem?_push, if_neg (by simp; omega), Array.getElem?_push, if_neg (by simp), Array.getElem?_push, if_pos rfl]
 ·rw [Array.getElem?_push, if_neg (by simp), Array.getElem?_push, if_pos (by simp)]
 ·rw [Array.getElem?_push, if_pos (by simp)]
theorem setNew_own (w : World) : SetOwn (((w.alloc (.map #[] 0)).alloc (.map #[] 0)).alloc (.cells (setNew (.map (some w.heap.size)) (.map (some (w.heap.size + 1)))) 192)) w.heap.size (w.heap.size + 2) (.slice none 0 0) w.heap.size (w.heap.size + 1) [] := by
 obtain ⟨h0, h1, h2⟩ := push3 w.heap (.map #[] 0) (.map #[] 0) (.cells (setNew (.map (some w.heap.size)) (.map (some (w.heap.size + 1)))) 192)
 obtain ⟨W, hW⟩ : ∃ W, W = ((w.alloc (.map #[] 0)).alloc (.map #[] 0)).alloc (.cells (setNew (.map (some w.heap.size)) (.map (some (w.heap.size + 1)))) 192) := ⟨_, rfl⟩
 rw [← hW]
 replace h0 : W.heap[w.heap.size]? = some (.map #[] 0) := by rw [hW]; exact h0
 replace h1 : W.heap[w.heap.size + 1]? = some (.map #[] 0) := by rw [hW]; exact h1
 replace h2 : W.heap[w.heap.size + 2]? = some (.cells (setNew (.map (some w.heap.size)) (.map (some (w.heap.size + 1)))) 192) := by rw [hW]; exact h2
 have hcell : ∀ i, W.cell? ⟨w.heap.size + 2, i, none⟩ = (setNew (.map (some w.heap.size)) (.map (some (w.heap.size + 1))))[i]? := by
  intro i
  simp only [World.cell?, h2]
  rfl
 refine ⟨by simp, by simp, by simp, by simp, ⟨by omega, by omega, by omega, by omega, ⟨_, h2⟩, Kd.R_nil _ _ _ _ _, ?_, ?_, ?_, ?_, ?_, ?_, ?_⟩⟩
 ·rw [hcell]; exact setNew_0 _ _
 ·rw [hcell]; exact setNew_1 _ _
 ·rw [hcell]; exact setNew_2 _ _
 ·exact ⟨#[], 0, h0, MapKept.stamped_empty 0, rfl⟩
 ·exact ⟨#[], 0, h1, MapKept.stamped_empty 0, rfl⟩
 ·intro i hi; rw [hcell, setNew_f _ _ _ hi]; rfl
 ·rw [hcell]; exact setNew_m _ _
def SetVO (w : World) (base : Nat) (v : Value) : Option (List Sp) → Prop
 | none => v = .pointer none
 | some S => ∃ p sv bi bt, v = .pointer (some ⟨p, 0, none⟩) ∧ SetOwn w base p sv bi bt S
theorem SetOwn.far {w : World} {base p : Nat} {v : Value} {bi bt : Nat} {S : List Sp} (h : SetOwn w base p v bi bt S) {a : Addr} (ha : a.block < base) (u : Value) : SetOwn (w.setCell a u) base p v bi bt S := by
 have hr := h.raw
 obtain ⟨cs, hc⟩ := hr.blk
 have hp : p ≠ a.block := by have := hr.lp; omega
 exact ⟨h.good, h.few, h.apartI, h.apartT, ⟨hr.lp, hr.li, hr.lt, hr.nit, ⟨cs, blk_far hc hp u⟩, Kd.R_mono (Kd.R_far (Kd.R_bound hr.rows) (fun k hk => by have := hk.2.1; omega) u) (fun _ _ => trivial), by rw [World.cell?_setCell_far _ _ _ _ (Ne.symm hp)]; exact hr.c0, by rw [World.cell?_setCell_far _ _ _ _ (Ne.symm hp)]; exact hr.c1, by rw [World.cell?_setCell_far _ _ _ _ (Ne.symm hp)]; exact hr.c2,
  hr.ids.of_block (Below.heap_setCell w a u bi (by have := hr.li; omega)), hr.texts.of_block (Below.heap_setCell w a u bt (by have := hr.lt; omega)), fun i hi => by rw [World.cell?_setCell_far _ _ _ _ (Ne.symm hp)]; exact hr.first i hi, by rw [World.cell?_setCell_far _ _ _ _ (Ne.symm hp)]; exact hr.most⟩⟩
theorem SetOwn.lower {w : World} {base base' p : Nat} {v : Value} {bi bt : Nat} {S : List Sp} (h : SetOwn w base p v bi bt S) (hb : base' ≤ base) : SetOwn w base' p v bi bt S := by
 have hr := h.raw
 exact ⟨h.good, h.few, h.apartI, h.apartT, ⟨Nat.le_trans hb hr.lp, Nat.le_trans hb hr.li, Nat.le_trans hb hr.lt, hr.nit, hr.blk, Kd.R_lower hr.rows hb, hr.c0, hr.c1, hr.c2, hr.ids, hr.texts, hr.first, hr.most⟩⟩
theorem new_own (A : Option Addr) (c : Nat) (l : List Sp) (w : World) (hr : Kd.C kSp w A l.length l) (hl : l.length ≤ 9223372036854775807) :
  Calls Tryz.prog 118 #[.slice A l.length c] w fun e w' => ∃ v, e = .returned (.tuple #[v, .int .i64 (newP l).1, .int .i64 (newP l).2]) ∧ SetVO w' w.heap.size v (if (newP l).2 = 0 then some l else none) ∧ Below w.heap.size w w' := by
 have HR := As.mk hr
 clear hr
 obtain ⟨R, hR⟩ : ∃ R, newP l = R := ⟨_, rfl⟩
 have HR0 := As.mk (show newF [] l 0 = R from hR)
 rw [hR]
 clear hR
 have hmm := @run_makeMap Tryz.prog
 have hz := setZero_run
 have hzs := setZero_size
 go_enter Tryz.func118, Tryz.ntmps118
 go_wp2_with fail
 have HO0 := As.mk (setNew_own w)
 have HB0 := As.mk (below_alloc (below_alloc (below_alloc (Below.refl w.heap.size w) (.map #[] 0)) (.map #[] 0)) (.cells (setNew (.map (some w.heap.size)) (.map (some (w.heap.size + 1)))) 192))
 unfold setNew at HO0 HB0
 clear hmm hz hzs
 simp only [Nat.add_assoc, Nat.reduceAdd] at HO0 HB0 ⊢
 generalize ((w.alloc (.map #[] 0)).alloc (.map #[] 0)).alloc (.cells ((setZero.setIfInBounds 1 (.map (some w.heap.size))).setIfInBounds 2 (.map (some (w.heap.size + 1)))) 192) = W0 at HO0 HB0 ⊢
 go_loopg [15] l.length (fun k v w' => ∃ (i : Nat) (sv : Value), v = .int .i64 i ∧ i ≤ l.length ∧ As (SetOwn w' w.heap.size (w.heap.size + 2) sv w.heap.size (w.heap.size + 1) (l.take i)) ∧ As (newF (l.take i) (l.drop i) i = R) ∧ As (l.length - i ≤ k) ∧ As (Below w.heap.size w w'))
 case atStart => exact ⟨0, .slice none 0 0, rfl, Nat.zero_le _, HO0, HR0, ⟨by omega⟩, HB0⟩
 case round =>
  clear HO0 HB0 HR0
  obtain ⟨i, sv, rfl, hi, HO, HF, HK, HB⟩ := hrel
  by_cases hlt : i < l.length
  ·obtain ⟨k1, rfl⟩ : ∃ k1, gk = k1 + 1 := ⟨gk - 1, by have := HK.out; omega⟩
   obtain ⟨ad, rfl, x0, x1⟩ := at_T93 (Kd.C_below HR.out HB.out) (i : Int) (by omega) (by omega)
   have hltI : (i : Int) < l.length := by omega
   have hd : l.drop i = rd_T93 l i :: l.drop (i + 1) := by
    rw [List.drop_eq_getElem_cons hlt]; unfold rd_T93; rw [Int.toNat_natCast, List.getD_eq_getElem?_getD, List.getElem?_eq_getElem hlt]; rfl
   have ht : l.take (i + 1) = l.take i ++ [rd_T93 l i] := by
    rw [List.take_succ_eq_append_getElem hlt]; unfold rd_T93; rw [Int.toNat_natCast, List.getD_eq_getElem?_getD, List.getElem?_eq_getElem hlt]; rfl
   have HF' := As.mk (show newF (l.take i) (rd_T93 l i :: l.drop (i + 1)) i = R from hd ▸ HF.out)
   have HT := As.mk ht
   clear hd ht HF
   rw [Int.toNat_natCast] at x0 x1
   generalize rd_T93 l i = x at *
   by_cases he : addE (l.take i) x = 0
   ·have hA := HF'.out
    unfold newF at hA
    rw [if_pos he] at hA
    have HA := As.mk hA
    have HE := As.mk he
    clear hA HF' he
    go_wp2_with (go_at_call 152; refine (add_yes (HO.out.below (below_alloc (Below.refl _ _) _)) x HE.out (by have := HB.out.size; simp; omega)).mono ?_; rintro e w1 ⟨rfl, v', ho, hb⟩; have HO1 := As.mk ho; have HB1 := As.mk ((below_alloc HB.out _).trans hb); clear ho hb HO HB)
    go_roundg k1
    case measure => omega
    case rel => exact ⟨i + 1, v', by go_num, by omega, ⟨by rw [HT.out]; exact HO1.out⟩, ⟨by rw [HT.out]; exact HA.out⟩, ⟨by have := HK.out; omega⟩, HB1⟩
   ·have hA := HF'.out
    unfold newF at hA
    rw [if_neg he] at hA
    subst hA
    have HE := As.mk he
    have he0 : (addE (l.take i) x == 0) = false := by simpa using he
    have he1 : (addE (l.take i) x != 0) = true := by simpa using he
    clear HF'
    go_wp2_with (go_at_call 152; refine (add_no (HO.out.below (below_alloc (Below.refl _ _) _)) x HE.out).mono ?_; rintro e w1 ⟨rfl, hb⟩; have HB1 := As.mk (bt_ (below_alloc HB.out _) hb); clear hb HO HB)
    go_ret3
    refine ⟨_, rfl, ?_, HB1.out⟩
    (try rw [if_neg HE.out])
    rfl
  ·obtain rfl : i = l.length := by omega
   have hA := HF.out
   rw [List.drop_length] at hA
   unfold newF at hA
   subst hA
   go_wp2
   go_ret3
   refine ⟨_, rfl, ?_, HB.out⟩
   (try rw [if_pos rfl])
   have := HO.out
   rw [List.take_length] at this
   exact ⟨_, _, _, _, rfl, this⟩
theorem new_any (A : Option Addr) (c : Nat) (l : List Sp) (w : World) (hr : Kd.C kSp w A l.length l) (hl : l.length ≤ 9223372036854775807) :
  Calls Tryz.prog 118 #[.slice A l.length c] w fun e w' => ∃ v, e = .returned (.tuple #[v, .int .i64 (newP l).1, .int .i64 (newP l).2]) ∧ SetV w' v (if (newP l).2 = 0 then some l else none) ∧ Below w.heap.size w w' := by
 refine (new_own A c l w hr hl).mono ?_
 rintro e w' ⟨v, rfl, h, hb⟩
 refine ⟨v, rfl, ?_, hb⟩
 by_cases h0 : (newP l).2 = 0
 ·rw [if_pos h0] at h ⊢
  obtain ⟨p, sv, bi, bt, e, ho⟩ := h
  exact ⟨p, e, ho.at⟩
 ·rw [if_neg h0] at h ⊢
  exact h
end Go.Proofs.YtkffhgiiejbnaaaGreat.Mk
