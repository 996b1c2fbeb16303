import Derived.Test.YtkffhgiiejbnaaaGreatQSkB
import Derived.Test.YtkffhgiiejbnaaaGreatQChainK
import Derived.Test.YtkffhgiiejbnaaaGreatQEncA
import Derived.Test.YtkffhgiiejbnaaaGreatQEncF
import Derived.Test.YtkffhgiiejbnaaaGreatQ01
set_option maxRecDepth 100000
set_option maxHeartbeats 1000000
set_option linter.unusedVariables false
set_option linter.unusedSimpArgs false
namespace Go.Proofs.YtkffhgiiejbnaaaGreat.Sk
open Go.Shelf Go.RowKit YtkffhgiiejbnaaaGreatW.PrintWords YtkffhgiiejbnaaaGreatW.PrintLast YtkffhgiiejbnaaaGreatW.PrintMore Rf Aid Mp Hp Tk Vc En
theorem has_ok {w : World} {v : Nat} {s : Vc.Sp} (h : VocAt w v s) (id : Int) : Calls Tryz.prog 70 #[.pointer (some ⟨v, 0, none⟩), .int .i64 id] w fun e w' => e = .returned (.bool (hasId s id)) ∧ w = w' := by
 have H := As.mk h
 clear h
 unfold hasId
 cases hi : Mk.idxI s.X id with
 | some i =>
  have HI := As.mk hi
  simp only [Option.isSome_some, Bool.true_or]
  clear hi
  go_enter Tryz.func70, Tryz.ntmps70
  go_wp2_with (first
   | (go_at_call 67; refine (marks_any H.out).mono ?_; rintro e w1 ⟨pm, rfl, hm, rfl⟩; have HM := As.mk hm; clear hm)
   | (go_at_call 98; have hma := Mk.mark_any HM.out id; rw [HI.out] at hma; unfold Mk.markT Mk.markV at hma; simp only [Option.isSome_some] at hma; refine hma.mono ?_; clear hma; rintro e w2 ⟨rfl, rfl⟩))
  go_ret
  exact ⟨rfl, rfl⟩
 | none =>
  have HI := As.mk hi
  simp only [Option.isSome_none, Bool.false_or]
  unfold hasE
  clear hi
  generalize hE : (tabOf s).1 = E
  have HE := As.mk hE
  clear hE
  by_cases h0 : 0 ≤ id
  ·rw [show decide (0 ≤ id ∧ id < (E.length : Int)) = decide (id < (E.length : Int)) by simp [h0]]
   go_enter Tryz.func70, Tryz.ntmps70
   go_wp2_with (first
    | (go_at_call 67; refine (marks_any H.out).mono ?_; rintro e w1 ⟨pm, rfl, hm, rfl⟩; have HM := As.mk hm; clear hm)
    | (go_at_call 98; have hma := Mk.mark_any HM.out id; rw [HI.out] at hma; unfold Mk.markT Mk.markV at hma; simp only [Option.isSome_none] at hma; refine hma.mono ?_; clear hma; rintro e w2 ⟨rfl, rfl⟩)
    | (go_at_call 99; go_enter Tryz.func99, Tryz.ntmps99)
    | (go_at_call 131; refine (table_any H.out).mono ?_; rintro e w3 ⟨pt, rfl, ht, rfl⟩; rw [HE.out] at ht; have HT := As.mk ht; clear ht)
    | (go_at_call 121; refine (Ch.len_of HT.out).mono ?_; rintro e w4 ⟨rfl, rfl⟩))
   go_ret
   exact ⟨rfl, rfl⟩
  ·rw [show decide (0 ≤ id ∧ id < (E.length : Int)) = false by simp [h0]]
   have h0' : id < 0 := by omega
   go_enter Tryz.func70, Tryz.ntmps70
   go_wp2_with (first
    | (go_at_call 67; refine (marks_any H.out).mono ?_; rintro e w1 ⟨pm, rfl, hm, rfl⟩; have HM := As.mk hm; clear hm)
    | (go_at_call 98; have hma := Mk.mark_any HM.out id; rw [HI.out] at hma; unfold Mk.markT Mk.markV at hma; simp only [Option.isSome_none] at hma; refine hma.mono ?_; clear hma; rintro e w2 ⟨rfl, rfl⟩))
   go_ret
   exact ⟨rfl, rfl⟩
def kPl : Kd (Int × Int) where
 sz := 2
 E := []
 K := fun _ x cs => cs = [.int .i64 x.1, .int .i64 x.2]
 M := fun _ _ _ x cs => cs = [.int .i64 x.1, .int .i64 x.2]
 K_len := by rintro _ _ _ rfl; rfl
 K_one := by
  rintro _ _ _ rfl u hu
  rcases List.mem_cons.1 hu with e | hu
  ·rw [e]; rfl
  ·rw [List.mem_singleton.1 hu]; rfl
 K_below := fun _ h => h
 K_of_M := fun h => h
 M_mono := fun _ h => h
 M_bound := fun h => h
 M_move := fun _ h => h
 M_lower := fun _ h => h
theorem info_pl : (Tryz.prog.info? 179).map (fun i => (i.zero, i.size, i.bytes)) = some (some (.agg #[.int .i64 0, .int .i64 0]), 2, 16) := by kernel_rfl
theorem pl_cells {w : World} {base n c : Nat} {ok : Nat → Prop} {A : Option Addr} {l : List (Int × Int)} (h : Kd.R kPl 179 w base ok (.slice A n c) l) {i : Nat} {x : Int × Int} (hx : l[i]? = some x) : ∃ g, A = some ⟨g, 0, none⟩ ∧ w.cell? ⟨g, i * 2, none⟩ = some (.int .i64 x.1) ∧ w.cell? ⟨g, i * 2 + 1, none⟩ = some (.int .i64 x.2) := by
 obtain ⟨hl, _⟩ := List.getElem?_eq_some_iff.1 hx
 obtain ⟨g, c', e', _⟩ := Kd.R_form h (by omega)
 injection e' with e1 e2 e3
 subst e1
 obtain ⟨h1, h2, h3⟩ := (Kd.R_reads' h).2.2
 obtain ⟨ad, e, hc⟩ := h3 (by omega)
 injection e with e
 subst e
 obtain ⟨cs, q1, q2, q3⟩ := hc i x hx
 have q2' : cs = [.int .i64 x.1, .int .i64 x.2] := q2
 subst q2'
 have r0 := q3 0 _ rfl
 have r1 := q3 1 _ rfl
 rw [show kPl.sz = 2 from rfl] at r0 r1
 refine ⟨g, rfl, ?_, ?_⟩
 ·rw [show (⟨g, 0, none⟩ : Addr).add (i * 2 + 0) = ⟨g, i * 2, none⟩ by unfold Addr.add; split <;> simp_all] at r0
  exact r0
 ·rw [show (⟨g, 0, none⟩ : Addr).add (i * 2 + 1) = ⟨g, i * 2 + 1, none⟩ by unfold Addr.add; split <;> simp_all] at r1
  exact r1
structure SkAt (w : World) (d v : Nat) (Ap : Option Addr) (cp g : Nat) (lv : Value) (p xs : List Int) (T : Nat) (last : List (Int × Int)) : Prop where
 blk : w.heap[d]? = some (.cells #[.slice Ap p.length cp, .slice (some ⟨g, 0, none⟩) (p.length + 1) (p.length + 1), .pointer (some ⟨v, 0, none⟩), .int .i64 ((metF p xs : Nat) : Int), .int .i64 (xs.length : Int), .int .i64 (T : Int), lv] 119 (0, 0))
 hp : Rw w (.slice Ap p.length cp) p
 hb : Rw w (.slice (some ⟨g, 0, none⟩) (p.length + 1) (p.length + 1)) (bkL p)
 hl : Kd.R kPl 179 w d (fun _ => True) lv last
def Kp (d : Nat) (w w' : World) : Prop := Below d w w' ∧ ∀ (k : Nat) (o : Obj), w.heap[k]? = some o → (∀ cs fr, o ≠ .cells cs 119 fr) → (∀ cs fr, o ≠ .cells cs 179 fr) → w'.heap[k]? = some o
theorem Kp.of {d : Nat} {w w' : World} (h : Below w.heap.size w w') (hd : d ≤ w.heap.size) : Kp d w w' := ⟨h.mono hd, fun k o ho _ _ => (h.block k (Array.getElem?_eq_some_iff.1 ho).1).trans ho⟩
theorem Kp.trans {d : Nat} {a b c : World} (h : Kp d a b) (k : Kp d b c) : Kp d a c := ⟨h.1.trans k.1, fun i o ho h1 h2 => k.2 i o (h.2 i o ho h1 h2) h1 h2⟩
theorem Kp.R {α : Type} {kd : Kd α} {e d : Nat} {w w' : World} {base : Nat} {ok : Nat → Prop} {v : Value} {xs : List α} (k : Kp d w w') (h : Kd.R kd e w base ok v xs) (h1 : ∀ q, q ∈ e :: kd.E → q ≠ 119 ∧ q ≠ 179) : Kd.R kd e w' base ok v xs :=
 Kd.R_mono (Kd.R_move (Kd.R_bound h) (fun j hj => by
  obtain ⟨_, _, _, q, hq, cells, hc⟩ := hj
  exact (k.2 j _ hc (fun cs fr e => (h1 q hq).1 (by injection e)) (fun cs fr e => (h1 q hq).2 (by injection e))).trans hc.symm)) (fun _ hk => hk.1)
theorem Kp.rw {d : Nat} {w w' : World} {v : Value} {xs : List Int} (k : Kp d w w') (h : Rw w v xs) : Rw w' v xs := k.R h (fun q hq => by rw [List.mem_singleton.1 hq]; decide)
theorem Kp.set {d : Nat} {w : World} {cs : Array Value} (h : w.heap[d]? = some (.cells cs 119 (0, 0))) (j : Nat) (u : Value) : Kp d w (w.setCell ⟨d, j, none⟩ u) :=
 ⟨(Below.refl d w).setCell (p := ⟨d, j, none⟩) (Nat.le_refl _) u, fun k o ho h1 _ => (Below.heap_setCell w ⟨d, j, none⟩ u k (fun e => by
  have e' : k = d := e
  subst e'
  rw [h] at ho
  injection ho with ho
  exact h1 _ _ ho.symm)).trans ho⟩
theorem Kp.grow {d : Nat} {w w' : World} {ok : Nat → Prop} {lv : Value} {l : List (Int × Int)} (h : Kd.R kPl 179 w d ok lv l) (hg : w.grownBy w' lv.ownBlock) (hd : d ≤ w.heap.size) : Kp d w w' :=
 ⟨(Below.refl d w).grown hg hd (fun k e => ((Kd.R_bound h).1 k e).2.1), fun k o ho _ h2 => (hg.block k (Array.getElem?_eq_some_iff.1 ho).1 (fun e => by
  obtain ⟨_, _, _, q, hq, cells, hc⟩ := (Kd.R_bound h).1 k e.symm
  rw [ho] at hc
  injection hc with hc
  rw [List.mem_singleton.1 hq] at hc
  exact h2 _ _ hc)).trans ho⟩
theorem SkAt.below {w w' : World} {d v : Nat} {Ap : Option Addr} {cp g : Nat} {lv : Value} {p xs : List Int} {T : Nat} {last : List (Int × Int)} (h : SkAt w d v Ap cp g lv p xs T last) (hb : Below w.heap.size w w') : SkAt w' d v Ap cp g lv p xs T last :=
 ⟨(hb.block _ (blk_lt h.blk)).trans h.blk, h.hp.below hb, h.hb.below hb, Kd.R_below h.hl hb⟩
theorem bkL_at {p : List Int} {j : Nat} (hl : j ≤ p.length) : (bkL p)[j]? = some ((bk p j : Nat) : Int) := by rw [← bkI_all]; exact bkI_at hl hl
theorem bkL_len (p : List Int) : (bkL p).length = p.length + 1 := by rw [← bkI_all]; exact bkI_len p _
section
variable {w : World} {d v : Nat} {Ap : Option Addr} {cp g : Nat} {lv : Value} {p xs : List Int} {T : Nat} {last : List (Int × Int)}
theorem items_sk0 (w : World) : Calls Tryz.prog 39 #[.pointer none] w fun e w' => e = .returned (.int .i64 0) ∧ w = w' := by
 go_enter Tryz.func39, Tryz.ntmps39
 go_wp2
 go_ret
 exact ⟨rfl, rfl⟩
theorem tokens_sk0 (w : World) : Calls Tryz.prog 40 #[.pointer none] w fun e w' => e = .returned (.int .i64 0) ∧ w = w' := by
 go_enter Tryz.func40, Tryz.ntmps40
 go_wp2
 go_ret
 exact ⟨rfl, rfl⟩
theorem partial_sk0 (w : World) : Calls Tryz.prog 41 #[.pointer none] w fun e w' => e = .returned (.int .i64 0) ∧ w = w' := by
 go_enter Tryz.func41, Tryz.ntmps41
 go_wp2
 go_ret
 exact ⟨rfl, rfl⟩
theorem reset_sk0 (w : World) : Calls Tryz.prog 43 #[.pointer none] w fun e w' => e = .returned (.tuple #[]) ∧ w = w' := by
 go_enter Tryz.func43, Tryz.ntmps43
 go_wp2
 go_end0
 exact ⟨rfl, rfl⟩
theorem feed_sk0 (A : Option Addr) (n c : Nat) (w : World) : Calls Tryz.prog 27 #[.pointer none, .slice A n c] w fun e w' => e = .returned (.tuple #[.slice none 0 0, .int .i64 0, .int .i64 1]) ∧ Below w.heap.size w w' := by
 have HB := As.mk (below_alloc (Below.refl w.heap.size w) (.cells #[.pointer none] 57))
 go_enter Tryz.func27, Tryz.ntmps27
 go_wp2
 go_ret3
 exact ⟨rfl, HB.out⟩
theorem new_sk0 (A : Option Addr) (n c : Nat) (w : World) : Calls Tryz.prog 37 #[.pointer none, .slice A n c] w fun e w' => e = .returned (.tuple #[.pointer none, .int .i64 0, .int .i64 1]) ∧ Below w.heap.size w w' := by
 have HB := As.mk (below_alloc (Below.refl w.heap.size w) (.cells #[.pointer none] 30))
 go_enter Tryz.func37, Tryz.ntmps37
 go_wp2
 go_ret3
 exact ⟨rfl, HB.out⟩
def firstF (last : List (Int × Int)) (at_ : Int) : Int × Int := (last.reverse.find? (fun x => decide (x.2 ≤ at_))).getD (0, 0)
theorem firstF_take {last : List (Int × Int)} {at_ : Int} {j : Nat} {x : Int × Int} (hx : last[j]? = some x) : firstF (last.take (j + 1)) at_ = if x.2 ≤ at_ then x else firstF (last.take j) at_ := by
 unfold firstF
 rw [List.take_add_one, hx]
 simp only [Option.toList_some, List.reverse_append, List.reverse_cons, List.reverse_nil, List.nil_append, List.cons_append, List.find?_cons]
 by_cases h : x.2 ≤ at_
 ·rw [if_pos h, decide_eq_true h]; rfl
 ·rw [if_neg h, decide_eq_false h]
theorem first_sk (h : SkAt w d v Ap cp g lv p xs T last) (hl : last.length ≤ 1000000000) (at_ : Int) : Calls Tryz.prog 102 #[.pointer (some ⟨d, 0, none⟩), .int .i64 at_] w fun e w' => e = .returned (.agg #[.int .i64 (firstF last at_).1, .int .i64 (firstF last at_).2]) ∧ Below w.heap.size w w' := by
 have H := As.mk h
 obtain ⟨Al, cl, hlv⟩ := Kd.R_slice h.hl
 subst hlv
 have HB := As.mk (below_alloc (Below.refl w.heap.size w) (.cells #[.int .i64 0, .int .i64 0] 179))
 have HN := As.mk (Go.MapKept.heap_alloc w (.cells #[.int .i64 0, .int .i64 0] 179)).1
 have c6 := cell_of (i := 6) ((HB.out.block _ (blk_lt h.blk)).trans h.blk) rfl
 have hw1 : wrap64 ((last.length : Int) - 1) = (last.length : Int) - 1 := w64 (by omega) (by omega)
 clear h
 go_enter Tryz.func102, Tryz.ntmps102
 go_wp2_with fail
 generalize w.alloc (.cells #[.int .i64 0, .int .i64 0] 179) = w1 at HB HN c6 ⊢
 go_loopg [5] (last.length) (fun k v5 W => ∃ (j : Nat), v5 = .int .i64 ((j : Int) - 1) ∧ j ≤ last.length ∧ As (j ≤ k) ∧ W = w1 ∧ As (firstF (last.take j) at_ = firstF last at_))
 case atStart => exact ⟨last.length, rfl, Nat.le_refl _, ⟨Nat.le_refl _⟩, rfl, ⟨by rw [List.take_length]⟩⟩
 case round =>
  obtain ⟨j, rfl, hj, HK, hW, HF⟩ := hrel
  subst hW
  have n0 := cell_of (i := 0) HN.out rfl
  have n1 := cell_of (i := 1) HN.out rfl
  have m0 := frozen_of HN.out 0
  have m1 := frozen_of HN.out 1
  have HZ := As.mk (fun (a b : Int) => (And.intro (blk_set (blk_set HN.out 0 (.int .i64 a)) 1 (.int .i64 b)) (((HB.out.setCell (p := ⟨w.heap.size, 0, none⟩) (Nat.le_refl _) (.int .i64 a)).setCell (p := ⟨w.heap.size, 1, none⟩) (Nat.le_refl _) (.int .i64 b)))))
  rcases Nat.eq_zero_or_pos j with h0 | h0
  ·subst h0
   have hneg : ¬ (0 : Int) ≤ ((0 : Nat) : Int) - 1 := by omega
   have hf : firstF last at_ = (0, 0) := by rw [← HF.out]; rfl
   have HFF := As.mk hf
   clear c6 hf
   go_wp2
   (try simp only [Exit.inBlock, Exit.then])
   refine bodyPost_ret (results_cell_row (p := 4) (ty := 179) rfl _ _ w.heap.size 179 _ (0, 0) _ (by rfl) (HZ.out 0 0).1 Tryz.underlying179 rfl (by kernel_rfl)) rfl ?_
   exact ⟨by rw [HFF.out]; rfl, (HZ.out 0 0).2⟩
  ·obtain ⟨j1, rfl⟩ : ∃ j1, j = j1 + 1 := ⟨j - 1, by omega⟩
   obtain ⟨k1, rfl⟩ : ∃ k1, gk = k1 + 1 := ⟨gk - 1, by have := HK.out; omega⟩
   have e : ((j1 + 1 : Nat) : Int) - 1 = (j1 : Int) := by omega
   rw [e]
   have hlt : j1 < last.length := by omega
   have hltI : (j1 : Int) < (last.length : Int) := by omega
   obtain ⟨⟨a, b⟩, hx⟩ : ∃ x, last[j1]? = some x := ⟨_, List.getElem?_eq_getElem hlt⟩
   obtain ⟨gl, hA, q0, q1⟩ := pl_cells (Kd.R_below H.out.hl HB.out) hx
   subst hA
   dsimp only at q0 q1
   have hf := firstF_take (at_ := at_) hx
   rw [HF.out] at hf
   dsimp only at hf
   have hw2 : wrap64 ((j1 : Int) - 1) = (j1 : Int) - 1 := w64 (by omega) (by omega)
   clear hx HF e
   by_cases hle : b ≤ at_
   ·rw [if_pos hle] at hf
    have HFF := As.mk hf
    clear hf
    go_wp2
    (try simp only [Exit.inBlock, Exit.then])
    refine bodyPost_ret (results_cell_row (p := 4) (ty := 179) rfl _ _ w.heap.size 179 _ (0, 0) _ (by rfl) (HZ.out a b).1 Tryz.underlying179 rfl (by kernel_rfl)) rfl ?_
    exact ⟨by rw [HFF.out]; rfl, (HZ.out a b).2⟩
   ·rw [if_neg hle] at hf
    have HF2 := As.mk hf.symm
    clear hf
    go_wp2
    go_roundg k1
    case measure => have := HK.out; omega
    case rel => exact ⟨j1, rfl, by omega, ⟨by have := HK.out; omega⟩, rfl, HF2⟩
end
end Go.Proofs.YtkffhgiiejbnaaaGreat.Sk
namespace Go.Proofs.YtkffhgiiejbnaaaGreat.En
open Go.Shelf Go.RowKit YtkffhgiiejbnaaaGreatW.PrintWords YtkffhgiiejbnaaaGreatW.PrintLast YtkffhgiiejbnaaaGreatW.PrintMore Rf Aid Mp Hp Bn Tk Vc Rg Go.Proofs.YtkffhgiiejbnaaaGreat.Fn
def pcsL (s : Sp) : Nat → List Int → List (List Int)
 | 0, _ => []
 | f + 1, xs => if xs = [] then [] else xs.take (cutN s xs) :: pcsL s f (xs.drop (cutN s xs))
theorem pcsF_map (s : Sp) : ∀ (f : Nat) (A : Option Addr) (c : Nat) (xs : List Int), (pcsF s f A c xs).map (·.2) = pcsL s f xs
 | 0, _, _, _ => rfl
 | f + 1, A, c, xs => by
  unfold pcsF pcsL
  by_cases h0 : xs = []
  ·rw [if_pos h0, if_pos h0]; rfl
  ·rw [if_neg h0, if_neg h0, List.map_cons, pcsF_map s f]
def tokL (s : Sp) (xs : List Int) : List Int := (pcsL s xs.length xs).flatMap (pieceT s)
theorem tokP_eq (s : Sp) (A : Option Addr) (c : Nat) (xs : List Int) : tokP s (pcsF s xs.length A c xs) = tokL s xs := by
 unfold tokP tokL
 rw [← pcsF_map s xs.length A c xs, List.flatMap_map]
def wrongF (s : Sp) (xs : List Int) : Option Nat := xs.findIdx? (fun n => !rightP s n)
theorem wrongF_none {s : Sp} {xs : List Int} (h : wrongF s xs = none) : ∀ x ∈ xs, rightP s x = true := by
 intro x hx
 have := List.findIdx?_eq_none_iff.1 h x hx
 simpa using this
def itemsE (s : Sp) (xs : List Int) : List Int × Int × Int :=
 if 4000 < xs.length then ([], 0, 3) else match wrongF s xs with | some i => ([], (i : Int), 2) | none => (tokL s xs, (xs.length : Int), 0)
theorem cloItems {W : World} {b v : Nat} {s : Sp} (hv : VocAt W v s) (hc : W.cell? ⟨b, 0, none⟩ = some (.pointer (some ⟨v, 0, none⟩))) (n : Int) :
  Calls Tryz.prog 60 (#[encI n] ++ #[.pointer (some ⟨b, 0, none⟩)]) W fun e W' => e = .returned (.bool (!rightP s n)) ∧ Below W.heap.size W W' := by
 have H := As.mk hv
 clear hv
 unfold encI
 show Calls Tryz.prog 60 #[.int .i64 n, .pointer (some ⟨b, 0, none⟩)] W _
 go_enter Tryz.func60, Tryz.ntmps60
 go_wp2_with (go_at_call 56; refine (right_any H.out n).mono ?_; rintro e w1 ⟨rfl, rfl⟩)
 go_ret
 exact ⟨rfl, Below.refl _ _⟩
theorem box_of (w : World) (v : Value) (t : Nat) : (w.alloc (.cells #[v] t (0, 0))).cell? ⟨w.heap.size, 0, none⟩ = some v := cell_of0 (Go.MapKept.heap_alloc w (.cells #[v] t (0, 0))).1
theorem items_any {w : World} {v : Nat} {s : Sp} (hv : VocAt w v s) (hs : SpOk s) {A : Option Addr} {c : Nat} {xs : List Int} (hr : Kd.C (Kd.int .i64) w A xs.length xs) (hc : xs.length ≤ c) (hl : xs.length ≤ 200000000) :
  Calls Tryz.prog 18 #[.pointer (some ⟨v, 0, none⟩), .slice A xs.length c] w fun e w' => ∃ sv, e = .returned (.tuple #[sv, .int .i64 (itemsE s xs).2.1, .int .i64 (itemsE s xs).2.2]) ∧ Kd.R (Kd.int .i64) 3 w' w.heap.size (fun _ => True) sv (itemsE s xs).1 ∧ Below w.heap.size w w' := by
 have HB := As.mk (below_alloc (Below.refl w.heap.size w) (.cells #[.pointer (some ⟨v, 0, none⟩)] 30))
 have c0 := box_of w (.pointer (some ⟨v, 0, none⟩)) 30
 have b0 := blk_lt (Go.MapKept.heap_alloc w (.cells #[.pointer (some ⟨v, 0, none⟩)] 30 (0, 0))).1
 have HL := As.mk hl
 have HC := As.mk hc
 have HS := As.mk hs
 by_cases hgt : 4000 < xs.length
 ·have HE := As.mk (show itemsE s xs = ([], 0, 3) by unfold itemsE; rw [if_pos hgt])
  have hg : (4000 : Int) < (xs.length : Int) := by omega
  rw [HE.out]
  clear hv hs hr hc hl
  go_enter Tryz.func18, Tryz.ntmps18
  go_wp2
  go_ret3
  exact ⟨_, rfl, Kd.R_nil _ _ _ _ _, HB.out⟩
 ·have hg : ¬ (4000 : Int) < (xs.length : Int) := by omega
  have hi := idxI A c xs 60 #[.pointer (some ⟨w.heap.size, 0, none⟩)] (fun n => !rightP s n) (enters_of Tryz.func60 (by kernel_rfl) rfl) (w.alloc (.cells #[.pointer (some ⟨v, 0, none⟩)] 30)) (Kd.C_below hr HB.out) (by omega)
   (fun W hW x hx => cloItems (hv.below (HB.out.trans (hW.mono HB.out.size))) (pw_cell_below hW c0) x)
  have HI := As.mk hi
  have HR := As.mk hr
  have HV := As.mk hv
  cases hw : wrongF s xs with
  | some i =>
   have HE := As.mk (show itemsE s xs = ([], (i : Int), 2) by unfold itemsE; rw [if_neg hgt, hw])
   unfold wrongF at hw
   rw [hw] at HI
   unfold ix at HI
   simp only at HI
   rw [HE.out]
   have hi0 : ¬ (i : Int) < 0 := by omega
   clear hv hs hr hc hl hi hw
   go_enter Tryz.func18, Tryz.ntmps18
   go_wp2_with (go_at_call 59; refine HI.out.mono ?_; rintro e w1 ⟨rfl, hb⟩; have HB1 := As.mk (HB.out.trans (hb.mono HB.out.size)); clear hb)
   go_ret3
   exact ⟨_, rfl, Kd.R_nil _ _ _ _ _, HB1.out⟩
  | none =>
   have HE := As.mk (show itemsE s xs = (tokL s xs, (xs.length : Int), 0) by unfold itemsE; rw [if_neg hgt, hw])
   have HRI := As.mk (wrongF_none hw)
   unfold wrongF at hw
   rw [hw] at HI
   unfold ix at HI
   simp only at HI
   rw [HE.out]
   clear hv hs hr hc hl hi hw
   go_enter Tryz.func18, Tryz.ntmps18
   go_wp2_with (first
    | (go_at_call 59; refine HI.out.mono ?_; rintro e w1 ⟨rfl, hb⟩; have c1 := pw_cell_below hb c0; have HB1 := As.mk (HB.out.trans (hb.mono HB.out.size)); clear hb)
    | (go_at_call 61; refine (tokens_any (HV.out.below HB1.out) HS.out (Kd.C_below HR.out HB1.out) HC.out HRI.out HL.out).mono ?_; rintro e w2 ⟨sv, rfl, hr2, hb2⟩; rw [tokP_eq] at hr2; have HR2 := As.mk (Kd.R_lower hr2 HB1.out.size); have HB2 := As.mk (HB1.out.trans (hb2.mono HB1.out.size)); clear hr2 hb2))
   go_ret3
   exact ⟨_, rfl, HR2.out, HB2.out⟩
end Go.Proofs.YtkffhgiiejbnaaaGreat.En
namespace Go.Proofs.YtkffhgiiejbnaaaGreat.En
open Go.Shelf Go.RowKit YtkffhgiiejbnaaaGreatW.PrintWords YtkffhgiiejbnaaaGreatW.PrintLast YtkffhgiiejbnaaaGreatW.PrintMore Rf Aid Mp Hp Bn Tk Vc Rg Go.Proofs.YtkffhgiiejbnaaaGreat.Fn
theorem atP_none (s : ByteArray) : Mk.atP [] s = none := by
 unfold Mk.atP Mk.firstOf
 split <;> simp
theorem bytes_run (s : ByteArray) (hs : s.size ≤ 1000) : ∀ (d k i : Nat) (xs : List Int), i ≤ s.size → s.size - i = d → d < k → xs.length = i → mark_Bytes.l0 k s xs (s.size : Int) i = some (xs ++ Mk.parseF [] s d i)
 | 0, k, i, xs, h0, h1, h2, h3 => by
  obtain ⟨k, rfl⟩ : ∃ m, k = m + 1 := ⟨k - 1, by omega⟩
  simp only [mark_Bytes.l0]
  rw [if_neg (by omega)]
  simp [Mk.parseF]
 | d + 1, k, i, xs, h0, h1, h2, h3 => by
  obtain ⟨k, rfl⟩ : ∃ m, k = m + 1 := ⟨k - 1, by omega⟩
  have hlt : i < s.size := by omega
  have hw : wrap64 ((i : Int) + 1) = ((i + 1 : Nat) : Int) := (w64 (by omega) (by omega)).trans (by omega)
  have hb := bt_range s i
  have hwb : wrap64 (bt s (i : Int)) = bt s i := w64 (by omega) (by omega)
  simp only [mark_Bytes.l0]
  rw [if_pos (by omega), if_pos (by omega), if_pos (by omega), if_pos (by omega), hw, hwb, bytes_run s hs d k (i + 1) _ (by omega) (by omega) (by omega) (by simp; omega), Mk.parseF_byte hlt (atP_none _), List.append_assoc]
  rfl
theorem bytes_any (s : ByteArray) (w : World) (hs : s.size ≤ 1000) :
  Calls Tryz.prog 28 #[.string s] w fun e w' => ∃ v, e = .returned v ∧ Kd.R (Kd.int .i64) 3 w' w.heap.size (fun _ => True) v (Mk.parseP [] s) ∧ Below w.heap.size w w' :=
 mark_Bytes.calls (s.size + 1) s _ w (by
  unfold mark_Bytes.f Mk.parseP
  have := bytes_run s hs s.size (s.size + 1) 0 [] (by omega) (by omega) (by omega) rfl
  simpa using this)
theorem of_any {w : World} {v : Nat} {sp : Sp} (hv : VocAt w v sp) (hsp : SpOk sp) (s : ByteArray) (hs : s.size ≤ 1000) (g : Nat) (first : Array Value) (eg : ∀ args w, (callFunc g args).run Tryz.prog w = .ok (.enter g args) w) {items : List Int} (hri : ∀ x ∈ items, rightP sp x = true) (hl : items.length ≤ 1000)
  (hp : Calls Tryz.prog g (first ++ #[.string s]) w fun e w' => ∃ pv, e = .returned pv ∧ Kd.R (Kd.int .i64) 3 w' w.heap.size (fun _ => True) pv items ∧ Below w.heap.size w w') :
  Calls Tryz.prog 66 #[.pointer (some ⟨v, 0, none⟩), .string s, .func (.func g) first #[]] w fun e w' => ∃ sv, e = .returned (.tuple #[sv, .int .i64 0]) ∧ Kd.R (Kd.int .i64) 3 w' w.heap.size (fun _ => True) sv (tokL sp items) ∧ Below w.heap.size w w' := by
 have HP := As.mk hp
 have HV := As.mk hv
 have HS := As.mk hsp
 have HRI := As.mk hri
 have hg : ¬ (4000 : Int) < (s.size : Int) := by omega
 clear hp hv hsp hri
 go_enter Tryz.func66, Tryz.ntmps66
 go_wp2_with (first
  | (go_at_call 61; refine (tokens_any (HV.out.below HB1.out) HS.out (Kd.R_reads' HR1.out).2.2 HC1.out HRI.out (by omega)).mono ?_; rintro e w2 ⟨sv, rfl, hr2, hb2⟩; rw [tokP_eq] at hr2; have HR2 := As.mk (Kd.R_lower hr2 HB1.out.size); have HB2 := As.mk (HB1.out.trans (hb2.mono HB1.out.size)); clear hr2 hb2)
  | (go_at_fn g; refine HP.out.mono ?_; rintro e w1 ⟨pv, rfl, hr1, hb1⟩; obtain ⟨A1, c1, rfl, hc1, _⟩ := Kd.R_reads hr1; have HR1 := As.mk hr1; have HC1 := As.mk hc1; have HB1 := As.mk hb1; clear hr1 hb1 hc1))
 go_ret2
 exact ⟨_, rfl, HR2.out, HB2.out⟩
end Go.Proofs.YtkffhgiiejbnaaaGreat.En
namespace Go.Proofs.YtkffhgiiejbnaaaGreat.En
open Go.Shelf Go.RowKit YtkffhgiiejbnaaaGreatW.PrintWords YtkffhgiiejbnaaaGreatW.PrintLast YtkffhgiiejbnaaaGreatW.PrintMore Rf Aid Mp Hp Bn Tk Vc Rg Go.Proofs.YtkffhgiiejbnaaaGreat.Fn
theorem parseF_item {S : List Mk.Sp} {s : ByteArray} : ∀ (f i : Nat), ∀ x ∈ Mk.parseF S s f i, (0 ≤ x ∧ x < 256) ∨ (x < 0 ∧ -(S.length : Int) ≤ x)
 | 0, _, x, h => by simp [Mk.parseF] at h
 | f + 1, i, x, h => by
  by_cases hi : i < s.size
  ·cases ha : Mk.atP S (s.extract i s.size) with
   | none =>
    rw [Mk.parseF_byte hi ha] at h
    rcases List.mem_cons.1 h with rfl | h
    ·have := bt_range s i; left; omega
    ·exact parseF_item f _ x h
   | some j =>
    rw [Mk.parseF_mark hi ha] at h
    rcases List.mem_cons.1 h with rfl | h
    ·have := (Mk.atP_spec ha).1; right; omega
    ·exact parseF_item f _ x h
  ·rw [Mk.parseF_nil hi] at h; cases h
theorem parse_right (sp : Sp) (s : ByteArray) : ∀ x ∈ Mk.parseP sp.X s, rightP sp x = true := fun x hx => by
 unfold rightP
 rcases parseF_item _ _ x hx with h | h
 ·simp [h]
 ·simp [h]
theorem parse_len (S : List Mk.Sp) (s : ByteArray) : (Mk.parseP S s).length ≤ s.size := Mk.parseF_length S s s.size 0
theorem text_any {w : World} {v : Nat} {sp : Sp} (hv : VocAt w v sp) (hsp : SpOk sp) (s : ByteArray) (hs : s.size ≤ 1000) :
  Calls Tryz.prog 23 #[.pointer (some ⟨v, 0, none⟩), .string s] w fun e w' => ∃ sv, e = .returned (.tuple #[sv, .int .i64 0]) ∧ Kd.R (Kd.int .i64) 3 w' w.heap.size (fun _ => True) sv (tokL sp (Mk.parseP sp.X s)) ∧ Below w.heap.size w w' := by
 have HV := As.mk hv
 have HO := As.mk (fun (pm : Nat) (hm : Mk.SetAt w pm sp.X) => of_any hv hsp s hs 68 #[.pointer (some ⟨pm, 0, none⟩)] (enters_of Tryz.func68 (by kernel_rfl) rfl) (parse_right sp s) (Nat.le_trans (parse_len _ _) hs) (Mk.parse_any hm s (by omega)))
 clear hv hsp
 go_enter Tryz.func23, Tryz.ntmps23
 go_wp2_with (first
  | (go_at_call 67; refine (marks_any HV.out).mono ?_; rintro e w1 ⟨pm, rfl, hm, rfl⟩)
  | (go_at_call 66; refine (HO.out pm hm).mono ?_; rintro e w1 ⟨sv, rfl, hr1, hb1⟩; have HR1 := As.mk hr1; have HB1 := As.mk hb1; clear hr1 hb1))
 go_ret2
 exact ⟨_, rfl, HR1.out, HB1.out⟩
end Go.Proofs.YtkffhgiiejbnaaaGreat.En
namespace Go.Proofs.YtkffhgiiejbnaaaGreat.Sk
open Go.Shelf Go.RowKit YtkffhgiiejbnaaaGreatW.PrintWords YtkffhgiiejbnaaaGreatW.PrintLast YtkffhgiiejbnaaaGreatW.PrintMore Rf Aid Mp Hp Tk Vc En Go.Proofs.YtkffhgiiejbnaaaGreat.Fn
def wrongK (s : Vc.Sp) (n : Int) : Bool := decide (256 ≤ n) || decide (n < -(s.X.length : Int))
theorem metF_nil (p : List Int) : metF p [] = 0 := by
 have := (metF_ends p []).len
 simp at this
 exact this
theorem cloNew {W : World} {b v : Nat} {s : Vc.Sp} (hv : VocAt W v s) (hc : W.cell? ⟨b, 0, none⟩ = some (.pointer (some ⟨v, 0, none⟩))) (n : Int) :
  Calls Tryz.prog 79 (#[encI n] ++ #[.pointer (some ⟨b, 0, none⟩)]) W fun e W' => e = .returned (.bool (wrongK s n)) ∧ Below W.heap.size W W' := by
 have H := As.mk hv
 clear hv
 unfold encI wrongK
 show Calls Tryz.prog 79 #[.int .i64 n, .pointer (some ⟨b, 0, none⟩)] W _
 by_cases h0 : 256 ≤ n
 ·rw [show (decide (256 ≤ n) || decide (n < -(s.X.length : Int))) = true by simp [h0]]
  go_enter Tryz.func79, Tryz.ntmps79
  go_wp2
  go_ret
  exact ⟨rfl, Below.refl _ _⟩
 ·rw [show (decide (256 ≤ n) || decide (n < -(s.X.length : Int))) = decide (n < -(s.X.length : Int)) by simp [h0]]
  have hfew : (s.X.length : Int) ≤ 32 := by
   obtain ⟨_, _, w0, pt, pb, pm, h1, h2, h3, h4, h5, h6, h7, h8⟩ := H.out
   have := h5.few; omega
  have hs0 : (0 : Int) ≤ (s.X.length : Int) := by omega
  go_enter Tryz.func79, Tryz.ntmps79
  go_wp2_with (first
   | (go_at_call 67; refine (marks_any H.out).mono ?_; rintro e w1 ⟨pm, rfl, hm, rfl⟩; obtain ⟨_, _, _, _, ⟨A, c, hl, _, _⟩, _⟩ := hm)
   | (go_at_call 80; refine (Mk.len_any pm s.X.length c A _ hl).mono ?_; rintro e w2 ⟨rfl, rfl⟩))
  go_ret
  exact ⟨rfl, Below.refl _ _⟩
section
variable {w : World} {v : Nat} {s : Vc.Sp}
theorem new_any (hv : VocAt w v s) {A : Option Addr} {c : Nat} {p : List Int} (hr : Kd.C (Kd.int .i64) w A p.length p) (hc : p.length ≤ c) (hp : p ≠ []) (hl : p.length ≤ 64) :
  Calls Tryz.prog 37 #[.pointer (some ⟨v, 0, none⟩), .slice A p.length c] w fun e w' => Below w.heap.size w w' ∧ (match p.findIdx? (wrongK s) with
   | some i => e = .returned (.tuple #[.pointer none, .int .i64 (i : Int), .int .i64 2])
   | none => ∃ (d : Nat) (Ap : Option Addr) (cp g : Nat), e = .returned (.tuple #[.pointer (some ⟨d, 0, none⟩), .int .i64 (p.length : Int), .int .i64 0]) ∧ SkAt w' d v Ap cp g (.slice none 0 0) p [] 0 [] ∧ w.heap.size ≤ d ∧ d < w'.heap.size) := by
 have hpos := List.length_pos_iff.2 hp
 have HB := As.mk (below_alloc (Below.refl w.heap.size w) (.cells #[.pointer (some ⟨v, 0, none⟩)] 30))
 have c0 := box_of w (.pointer (some ⟨v, 0, none⟩)) 30
 have hN := (Go.MapKept.heap_alloc w (.cells #[.pointer (some ⟨v, 0, none⟩)] 30 (0, 0))).1
 have b0 := blk_lt hN
 have hi := idxI A c p 79 #[.pointer (some ⟨w.heap.size, 0, none⟩)] (wrongK s) (enters_of Tryz.func79 (by kernel_rfl) rfl) (w.alloc (.cells #[.pointer (some ⟨v, 0, none⟩)] 30)) (Kd.C_below hr HB.out) (by omega)
  (fun W hW x hx => cloNew (hv.below (HB.out.trans (hW.mono HB.out.size))) (pw_cell_below hW c0) x)
 have HI := As.mk hi
 have HR := As.mk hr
 have HP := As.mk hp
 have HL := As.mk hl
 have HN := As.mk hN
 have hg : ¬ (64 : Int) < (p.length : Int) := by omega
 have h0 : ((p.length : Int) == 0) = false := by simp; omega
 clear hr hp hi hv hN
 cases hw : p.findIdx? (wrongK s) with
 | some i =>
  rw [hw] at HI
  unfold ix at HI
  simp only at HI ⊢
  have hi0 : (0 : Int) ≤ (i : Int) := by omega
  clear hw
  go_enter Tryz.func37, Tryz.ntmps37
  go_wp2_with (go_at_call 59; refine HI.out.mono ?_; rintro e w1 ⟨rfl, hb⟩; have HB1 := As.mk (HB.out.trans (hb.mono HB.out.size)); clear hb)
  go_ret3
  exact ⟨HB1.out, rfl⟩
 | none =>
  rw [hw] at HI
  unfold ix at HI
  simp only at HI ⊢
  clear hw
  go_enter Tryz.func37, Tryz.ntmps37
  go_wp2_with (go_at_call 59; refine HI.out.mono ?_; rintro e w1 ⟨rfl, hb⟩; have HB1 := As.mk (HB.out.trans (hb.mono HB.out.size)); have HN1 := As.mk ((hb.block _ (blk_lt HN.out)).trans HN.out); clear hb c0 b0)
  refine start_ (n := 10) (S := fun w' => Below w1.heap.size w1 w') (ds := []) #[false, false, false, false, false, false, false, false, false, false] (by kernel_rfl) rfl rfl (below_drew1 (Below.refl _ _)) (fun hHeld => ?_)
  have HD3 := As.mk (below_drew1 (Below.refl w1.heap.size w1)); clear hHeld; generalize w1.drew = w3 at HD3 ⊢; have hHeld := HD3.out
  refine pI 0 (some 26) (bs 10 1) ?_
  refine pI 5 (some 31) (bs 10 33) ?_
  refine pI 6 (some 32) (bs 10 97) ?_
  refine tI 2 (some 28) (bs 10 101) rfl (by intro w' hS'; have s0 := hS'; have z := cell_of0 ((hS'.block _ (blk_lt HN1.out)).trans HN1.out); go_simp; with_reducible rfl) hHeld ?_
  refine one_ (i := 1) (N := some 27) (bs 10 103) rfl rfl (by kernel_rfl) (by decide) (fun K hK => ?_)
  refine goes_ Tryz.func81 (by kernel_rfl) rfl #[.slice A p.length c] (by rfl) rfl rfl (by simp [Act.eval]) ?_
  refine (of_any HP.out (by have := HL.out; omega) w3 (Kd.C_below HR.out (HB1.out.trans (HD3.out.mono HB1.out.size)))).mono ?_
  rintro e w4 ⟨Ap, cp, g, rfl, h1, h2, hb⟩
  have HA4 := As.mk h1
  have HG4 := As.mk h2
  have HD4 := As.mk (bt_ HD3.out hb)
  clear h1 h2 hb
  refine ⟨_, rfl, ?_⟩
  refine hK.out _ _ HD4.out (fun hHeld => ?_)
  clear hK K
  refine nI ?_
  refine pI 3 (some 29) (bs 10 111) ?_
  refine one_ (i := 4) (N := some 30) (bs 10 127) rfl rfl (by kernel_rfl) (by decide) (fun K hK => ?_)
  refine value_ (w1 := w4.alloc (.cells #[.slice Ap p.length cp, .slice (some ⟨g, 0, none⟩) (p.length + 1) (p.length + 1), .pointer (some ⟨v, 0, none⟩), .int .i64 0, .int .i64 0, .int .i64 0, .slice none 0 0] 119)) (v := .pointer (some ⟨w4.heap.size, 0, none⟩)) (by rfl) rfl ?_ ?_
  ·first | (go_simp; done) | (go_simp; rfl)
  have HN5 := As.mk (Go.MapKept.heap_alloc w4 (.cells #[.slice Ap p.length cp, .slice (some ⟨g, 0, none⟩) (p.length + 1) (p.length + 1), .pointer (some ⟨v, 0, none⟩), .int .i64 0, .int .i64 0, .int .i64 0, .slice none 0 0] 119)).1
  have HB5 := As.mk (below_alloc (Below.refl w4.heap.size w4) (.cells #[.slice Ap p.length cp, .slice (some ⟨g, 0, none⟩) (p.length + 1) (p.length + 1), .pointer (some ⟨v, 0, none⟩), .int .i64 0, .int .i64 0, .int .i64 0, .slice none 0 0] 119))
  have HD5 := As.mk (bt_ HD4.out HB5.out)
  refine hK.out _ _ HD5.out (fun hHeld => ?_)
  clear hK K
  refine nI ?_
  refine pI 7 (some 4) (bs 10 255) ?_
  refine pI 8 (some 5) (bs 10 511) ?_
  refine pI 9 (some 6) (bs 10 1023) ?_
  refine done_ (by kernel_rfl) ?_
  go_wp2
  go_ret3
  exact ⟨bt_ HB1.out HD5.out, w4.heap.size, Ap, cp, g, rfl, ⟨by rw [metF_nil]; exact HN5.out, HA4.out.below HB5.out, HG4.out.below HB5.out, Kd.R_nil _ _ _ _ _⟩, by have h1 := HB1.out.size; have h2 := HD4.out.size; omega, blk_lt HN5.out⟩
theorem text_sk0 (t : ByteArray) (ht : t.size ≤ 1000) (w : World) : Calls Tryz.prog 26 #[.pointer none, .string t] w fun e w' => e = .returned (.tuple #[.pointer none, .int .i64 1]) ∧ Below w.heap.size w w' := by
 go_enter Tryz.func26, Tryz.ntmps26
 go_wp2_with (first
  | (go_at_call 28; refine (bytes_any t _ ht).mono ?_; rintro e w1 ⟨sv, rfl, ho, hb⟩; have HB1 := As.mk hb; obtain ⟨A, c, rfl⟩ := Kd.R_slice ho; clear hb ho)
  | (go_at_call 37; refine (new_sk0 A _ c _).mono ?_; rintro e w2 ⟨rfl, hb⟩; have HB2 := As.mk (bt_ HB1.out hb); clear hb))
 go_ret2
 exact ⟨rfl, HB2.out⟩
theorem text_any (hv : VocAt w v s) (t : ByteArray) (h0 : 0 < t.size) (hl : t.size ≤ 64) : Calls Tryz.prog 26 #[.pointer (some ⟨v, 0, none⟩), .string t] w fun e w' => ∃ (d : Nat) (Ap : Option Addr) (cp g : Nat), e = .returned (.tuple #[.pointer (some ⟨d, 0, none⟩), .int .i64 0]) ∧ SkAt w' d v Ap cp g (.slice none 0 0) (Mk.parseP [] t) [] 0 [] ∧ w.heap.size ≤ d ∧ d < w'.heap.size ∧ Below w.heap.size w w' := by
 have HV := As.mk hv
 have hpl := parse_len [] t
 have hfi : (Mk.parseP [] t).findIdx? (wrongK s) = none := List.findIdx?_eq_none_iff.2 (fun x hx => by
  unfold wrongK
  rcases parseF_item _ _ x hx with h | h
  ·simp; omega
  ·have h2 := h.2; simp only [List.length_nil] at h2; omega)
 have hne : Mk.parseP [] t ≠ [] := by
  unfold Mk.parseP
  obtain ⟨n, hn⟩ : ∃ n, t.size = n + 1 := ⟨t.size - 1, by omega⟩
  rw [hn, Mk.parseF_byte (by omega) (atP_none _)]
  simp
 have HN := As.mk (fun (W : World) (hv' : VocAt W v s) (A : Option Addr) (c : Nat) (h : Kd.C (Kd.int .i64) W A (Mk.parseP [] t).length (Mk.parseP [] t)) (hc : (Mk.parseP [] t).length ≤ c) => (by
  have h := new_any hv' h hc hne (by omega)
  rw [hfi] at h
  exact h : Calls Tryz.prog 37 #[.pointer (some ⟨v, 0, none⟩), .slice A (Mk.parseP [] t).length c] W fun e w' => Below W.heap.size W w' ∧ ∃ (d : Nat) (Ap : Option Addr) (cp g : Nat), e = .returned (.tuple #[.pointer (some ⟨d, 0, none⟩), .int .i64 ((Mk.parseP [] t).length : Int), .int .i64 0]) ∧ SkAt w' d v Ap cp g (.slice none 0 0) (Mk.parseP [] t) [] 0 [] ∧ W.heap.size ≤ d ∧ d < w'.heap.size))
 have HBY := As.mk (fun (W : World) => bytes_any t W (by omega))
 clear hv hfi hne hpl
 generalize Mk.parseP [] t = B at *
 go_enter Tryz.func26, Tryz.ntmps26
 go_wp2_with (first
  | (go_at_call 28; refine (HBY.out _).mono ?_; rintro e w1 ⟨sv, rfl, ho, hb⟩; have HB1 := As.mk hb; obtain ⟨A, c, rfl, hc, hC⟩ := Kd.R_reads ho; have HC := As.mk hC; have HCC := As.mk hc; clear hb ho hc hC)
  | (go_at_call 37; refine (HN.out _ (HV.out.below HB1.out) A c HC.out HCC.out).mono ?_; rintro e w2 ⟨hb, d, Ap, cp, g, rfl, hs, hd, hd2⟩; have HB2 := As.mk (bt_ HB1.out hb); have HS := As.mk hs; have HD := As.mk (And.intro hd hd2); clear hb hs hd hd2))
 go_ret2
 exact ⟨d, Ap, cp, g, rfl, HS.out, Nat.le_trans HB1.out.size HD.out.1, HD.out.2, HB2.out⟩
end
end Go.Proofs.YtkffhgiiejbnaaaGreat.Sk
