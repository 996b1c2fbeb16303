import Derived.BigQuiet
import Derived.Test.YtkffhgiiejbnaaaGreatQDecC
import Derived.Test.YtkffhgiiejbnaaaGreatQOf
import Derived.Test.YtkffhgiiejbnaaaGreatQDecA
import Derived.Test.YtkffhgiiejbnaaaGreatQ01
import Derived.Test.YtkffhgiiejbnaaaGreatQ02
import Derived.Test.YtkffhgiiejbnaaaGreatQDecB
import Derived.Test.YtkffhgiiejbnaaaGreatQDecN
import Derived.Test.YtkffhgiiejbnaaaGreatQSkG
set_option maxRecDepth 100000
set_option maxHeartbeats 2000000
set_option linter.unusedVariables false
set_option linter.unusedSimpArgs false
namespace Go.Proofs.YtkffhgiiejbnaaaGreat.Dc
open Go.Shelf Go.RowKit YtkffhgiiejbnaaaGreatW.PrintWords YtkffhgiiejbnaaaGreatW.PrintLast YtkffhgiiejbnaaaGreatW.PrintMore Rf Aid Mp Hp Tk Vc
structure DecSh (w : World) (d v : Nat) (told : Nat) : Prop where
 blk : w.heap[d]? = some (.cells #[.string ⟨#[]⟩, .pointer (some ⟨v, 0, none⟩), .bool true, .int .i64 (told : Int)] 155 (0, 0))
theorem DecSh.below {w w' : World} {d v told : Nat} (h : DecSh w d v told) (hb : Below w.heap.size w w') : DecSh w' d v told := ⟨(hb.block _ (blk_lt h.blk)).trans h.blk⟩
end Go.Proofs.YtkffhgiiejbnaaaGreat.Dc
namespace Go.Proofs.YtkffhgiiejbnaaaGreat.Rt
open Go.RowKit YtkffhgiiejbnaaaGreatW.PrintWords YtkffhgiiejbnaaaGreatW.PrintLast YtkffhgiiejbnaaaGreatW.PrintMore Rf Aid Mp Hp Tk Vc Dc
theorem VocAt.good {w : World} {v : Nat} {s : Sp} (h : VocAt w v s) : Mk.GoodS s.X := by
 obtain ⟨_, _, w0, pt, pb, pm, h1, h2, h3, h4, h5, h6, h7, h8⟩ := h
 exact h5.goodS
end Go.Proofs.YtkffhgiiejbnaaaGreat.Rt
namespace Go.Proofs.YtkffhgiiejbnaaaGreat.Sk
open Go.Shelf Go.RowKit YtkffhgiiejbnaaaGreatW.PrintWords YtkffhgiiejbnaaaGreatW.PrintLast YtkffhgiiejbnaaaGreatW.PrintMore Rf Aid Mp Hp Tk Vc En
inductive Fd (d v : Nat) (a : World) : World → Prop
 | refl : Fd d v a a
 | kp {b c : World} : Fd d v a b → Kp d b c → Fd d v a c
 | used {b c : World} : Fd d v a b → (∃ cs, b.heap[v]? = some (.cells cs 144 (0, 0))) → Used b v c → Fd d v a c
 | far {b c : World} {row : Option Nat} : Fd d v a b → b.grownBy c row → (∀ j, row = some j → a.heap.size ≤ j) → Fd d v a c
section
variable {d v : Nat} {a b : World}
theorem Fd.size (h : Fd d v a b) : a.heap.size ≤ b.heap.size := by
 induction h with
 | refl => exact Nat.le_refl _
 | kp _ k ih => exact Nat.le_trans ih k.1.size
 | used _ _ hu ih =>
  obtain ⟨m, hm⟩ := hu
  exact Nat.le_trans ih (by have := hm.size; rwa [set_size] at this)
 | far _ hg _ ih => exact Nat.le_trans ih hg.size
theorem Fd.trans {c : World} (h : Fd d v a b) (k : Fd d v b c) : Fd d v a c := by
 have hs := h.size
 induction k with
 | refl => exact h
 | kp _ k ih => exact .kp ih k
 | used _ hb hu ih => exact .used ih hb hu
 | far _ hg hr ih => exact .far ih hg (fun j e => Nat.le_trans hs (hr j e))
theorem Fd.row {α : Type} {kd : Kd α} {e base : Nat} {ok : Nat → Prop} {x : Value} {xs : List α} (f : Fd d v a b) (h : Kd.R kd e a base ok x xs) (hq : ∀ q, q ∈ e :: kd.E → q ≠ 119 ∧ q ≠ 179 ∧ q ≠ 144) : Kd.R kd e b base ok x xs := by
 have h0 : Kd.R kd e a base (fun k => ok k ∧ k < a.heap.size) x xs := Kd.R_mono (Kd.R_bound h) (fun k hk => ⟨hk.1, hk.2.2.1⟩)
 refine Kd.R_mono (ok := fun k => ok k ∧ k < a.heap.size) ?_ (fun k hk => hk.1)
 induction f with
 | refl => exact h0
 | kp _ k ih => exact k.R ih (fun q hm => ⟨(hq q hm).1, (hq q hm).2.1⟩)
 | used _ hb hu ih =>
  obtain ⟨m, hm⟩ := hu
  obtain ⟨cs, hb⟩ := hb
  exact Kd.R_below (Kd.R_set ih hb (fun q hm => (hq q hm).2.2) 13 (.int .i64 m)) (by rw [set_size]; exact hm)
 | far _ hg hr ih => exact Kd.R_grown ih hg (fun k hk e => by have := hr k e.symm; have := hk.2; omega)
theorem Fd.rw {x : Value} {xs : List Int} (f : Fd d v a b) (h : Rw a x xs) : Rw b x xs := f.row h (fun q hq => by rw [List.mem_singleton.1 hq]; decide)
theorem Fd.blk {k t : Nat} {cs : Array Value} (f : Fd d v a b) (h : a.heap[k]? = some (.cells cs t (0, 0))) (h1 : t ≠ 119) (h2 : t ≠ 179) (h3 : t ≠ 144) : b.heap[k]? = some (.cells cs t (0, 0)) := by
 have hk := blk_lt h
 induction f with
 | refl => exact h
 | kp _ k ih => exact k.2 _ _ ih (fun cs' fr e => h1 (by injection e)) (fun cs' fr e => h2 (by injection e))
 | used _ hb hu ih =>
  obtain ⟨m, hm⟩ := hu
  obtain ⟨cs', hb⟩ := hb
  rw [(hm.block _ (blk_lt ih)), Below.heap_setCell _ _ _ _ (fun e => by
   have e' : k = v := e
   rw [e', hb] at ih
   injection ih with ih
   injection ih with _ ih _
   exact h3 ih.symm)]
  exact ih
 | far f hg hr ih => exact (hg.block _ (blk_lt ih) (fun e => by have := hr k e.symm; omega)).trans ih
theorem Fd.high (f : Fd d v a b) (hd : d ≤ a.heap.size) {n : Nat} (hn : n ≤ v) (hv : v < d) : Below n a b := by
 induction f with
 | refl => exact Below.refl _ _
 | kp _ k ih => exact ih.trans (k.1.mono (by omega))
 | used f _ hu ih =>
  obtain ⟨m, hm⟩ := hu
  exact ih.trans (((Below.refl n _).setCell (p := ⟨v, 13, none⟩) hn _).trans (hm.mono (by have := f.size; omega)))
 | far f hg hr ih => exact ih.trans ((Below.refl n _).grown hg (by have := f.size; omega) (fun j e => by have := hr j e; omega))
theorem VocAt_bel {s : Vc.Sp} {n : Nat} (h : VocAt a v s) (hb : Below n a b) (hn : v < n) : VocAt b v s := by
 obtain ⟨⟨cs, hc⟩, ⟨m, hm⟩, w0, pt, pb, pm, h1, h2, h3, h4, h5, h6, h7, h8⟩ := h
 have hk := hb.block v hn
 have hcell : ∀ i x, a.cell? ⟨v, i, none⟩ = some x → b.cell? ⟨v, i, none⟩ = some x := fun i x hx => by
  unfold World.cell? at hx ⊢
  rw [show (⟨v, i, none⟩ : Addr).block = v from rfl] at hx ⊢
  rw [hk]
  exact hx
 exact ⟨⟨cs, hk.trans hc⟩, ⟨m, hcell _ _ hm⟩, w0, pt, pb, pm, h1, h2.trans (hb.mono (by omega)), h3, h4, h5, hcell _ _ h6, hcell _ _ h7, hcell _ _ h8⟩
theorem SkAt.used {Ap : Option Addr} {cp g : Nat} {lv : Value} {p xs : List Int} {T : Nat} {last : List (Int × Int)} (h : SkAt a d v Ap cp g lv p xs T last) (hb : ∃ cs, a.heap[v]? = some (.cells cs 144 (0, 0))) (hu : Used a v b) : SkAt b d v Ap cp g lv p xs T last := by
 obtain ⟨m, hm⟩ := hu
 obtain ⟨cs, hb⟩ := hb
 have hne : d ≠ v := fun e => by
  have h1 := h.blk
  rw [e, hb] at h1
  injection h1 with h1
  injection h1 with _ h1 _
  exact absurd h1 (by decide)
 have hs : SkAt (a.setCell ⟨v, 13, none⟩ (.int .i64 m)) d v Ap cp g lv p xs T last :=
  ⟨(Below.heap_setCell a ⟨v, 13, none⟩ _ d hne).trans h.blk, Kd.R_set h.hp hb (by decide) 13 _, Kd.R_set h.hb hb (by decide) 13 _, Kd.R_set h.hl hb (by decide) 13 _⟩
 exact hs.below (by rw [set_size]; exact hm)
end
structure St where
 xs : List Int
 T : Nat
 L : List (Int × Int)
 told : List S65
def nextL (p : List Int) (st : St) : List (Int × Int) := forgetL (p.length : Int) (st.xs.length : Int) st.L ++ [((st.T : Int), (st.xs.length : Int))]
def stp (s : Vc.Sp) (p : List Int) (st : St) (id : Int) : St :=
 ⟨st.xs ++ itemsOf s id, st.T + 1, nextL p st, st.told ++ (List.range (itemsOf s id).length).flatMap (hitF p st.xs (nextL p st) st.T (itemsOf s id))⟩
def feedS (s : Vc.Sp) (p : List Int) (st : St) (ids : List Int) : St := ids.foldl (stp s p) st
theorem feedS_next (s : Vc.Sp) (p : List Int) (st : St) {ids : List Int} {i : Nat} {id : Int} (h : ids[i]? = some id) : feedS s p st (ids.take (i + 1)) = stp s p (feedS s p st (ids.take i)) id := by
 unfold feedS
 rw [List.take_add_one, h, List.foldl_append]
 rfl
structure StOk (st : St) (n : Nat) : Prop where
 xs : st.xs.length ≤ 64 * n
 T : st.T ≤ n
 L : st.L.length ≤ n
 told : st.told.length ≤ 64 * n
 at_ : ∀ x ∈ st.L, 0 ≤ x.2 ∧ x.2 ≤ (st.xs.length : Int)
theorem stp_ok {s : Vc.Sp} (hs : ∀ id, (itemsOf s id).length ≤ 64) {p : List Int} {st : St} {n : Nat} (h : StOk st n) (id : Int) : StOk (stp s p st id) (n + 1) := by
 have h1 := hs id
 have h2 := hit_len p st.xs (nextL p st) st.T (itemsOf s id) (itemsOf s id).length
 have h3 := forgetL_len (p.length : Int) (st.xs.length : Int) st.L
 refine ⟨?_, ?_, ?_, ?_, ?_⟩
 ·show (st.xs ++ itemsOf s id).length ≤ _; rw [List.length_append]; have := h.xs; omega
 ·show st.T + 1 ≤ _; have := h.T; omega
 ·show (nextL p st).length ≤ _; unfold nextL; rw [List.length_append, List.length_singleton]; have := h.L; omega
 ·show (st.told ++ _).length ≤ _; rw [List.length_append]; have := h.told; omega
 ·intro x hx
  have hx' : x ∈ forgetL (p.length : Int) (st.xs.length : Int) st.L ++ [((st.T : Int), (st.xs.length : Int))] := hx
  show 0 ≤ x.2 ∧ x.2 ≤ ((st.xs ++ itemsOf s id).length : Int)
  rw [List.length_append]
  rcases List.mem_append.1 hx' with hm | hm
  ·have := h.at_ x (List.mem_of_mem_drop hm); omega
  ·rw [List.mem_singleton.1 hm]; dsimp only; omega
theorem feedS_ok {s : Vc.Sp} (hs : ∀ id, (itemsOf s id).length ≤ 64) {p : List Int} : ∀ (ids : List Int) {st : St} {n : Nat}, StOk st n → StOk (feedS s p st ids) (n + ids.length)
 | [], st, n, h => h
 | id :: l, st, n, h => by
  have := feedS_ok hs (p := p) l (stp_ok (p := p) hs h id)
  rw [show n + (id :: l).length = n + 1 + l.length by rw [List.length_cons]; omega]
  exact this
end Go.Proofs.YtkffhgiiejbnaaaGreat.Sk
namespace Go.Proofs.YtkffhgiiejbnaaaGreat.Sk
open Go.Shelf Go.RowKit YtkffhgiiejbnaaaGreatW.PrintWords YtkffhgiiejbnaaaGreatW.PrintLast YtkffhgiiejbnaaaGreatW.PrintMore Rf Aid Mp Hp Tk Vc En Go.Proofs.YtkffhgiiejbnaaaGreat.Fn
theorem cloFeed {W : World} {b d v : Nat} {s : Vc.Sp} {Ap : Option Addr} {cp g : Nat} {lv : Value} {p xs : List Int} {T : Nat} {last : List (Int × Int)} (hs : SkAt W d v Ap cp g lv p xs T last) (hv : VocAt W v s) (hc : W.cell? ⟨b, 0, none⟩ = some (.pointer (some ⟨d, 0, none⟩))) (n : Int) :
  Calls Tryz.prog 69 (#[encI n] ++ #[.pointer (some ⟨b, 0, none⟩)]) W fun e W' => e = .returned (.bool (!hasId s n)) ∧ Below W.heap.size W W' := by
 have H := As.mk hv
 have c2 := cell_of (i := 2) hs.blk rfl
 clear hv hs
 unfold encI
 show Calls Tryz.prog 69 #[.int .i64 n, .pointer (some ⟨b, 0, none⟩)] W _
 go_enter Tryz.func69, Tryz.ntmps69
 go_wp2_with (go_at_call 70; refine (has_ok H.out n).mono ?_; rintro e w1 ⟨rfl, rfl⟩)
 go_ret
 exact ⟨rfl, Below.refl _ _⟩
theorem blk_use {w w' : World} {v g t : Nat} {cs : Array Value} (hu : Used w v w') (h : w.heap[g]? = some (.cells cs t (0, 0))) (hne : g ≠ v) : w'.heap[g]? = some (.cells cs t (0, 0)) := by
 obtain ⟨m, hm⟩ := hu
 have h1 := blk_far h (p := ⟨v, 13, none⟩) hne (.int .i64 m)
 exact (hm.block _ (by have := blk_lt h; simpa [World.setCell] using this)).trans h1
theorem R_used {α : Type} {kd : Kd α} {e base v : Nat} {ok : Nat → Prop} {x : Value} {xs : List α} {a b : World} (h : Kd.R kd e a base ok x xs) (hb : ∃ cs, a.heap[v]? = some (.cells cs 144 (0, 0))) (hu : Used a v b) (hq : ∀ q, q ∈ e :: kd.E → q ≠ 144) : Kd.R kd e b base ok x xs := by
 obtain ⟨m, hm⟩ := hu
 obtain ⟨cs, hb⟩ := hb
 exact Kd.R_below (Kd.R_set h hb hq 13 (.int .i64 m)) (by rw [set_size]; exact hm)
theorem one_items {W : World} {v : Nat} {s : Vc.Sp} (hv : VocAt W v s) (id : Int) (hit : itF s [id] 0 [] = (itemsOf s id, 1, 0)) : Calls Tryz.prog 29 #[.pointer (some ⟨v, 0, none⟩), .slice (some ⟨W.heap.size, 0, none⟩) 1 1] (W.alloc (.cells #[.int .i64 id] 3)) fun e w' => ∃ sv : Value, e = .returned (.tuple #[sv, .int .i64 1, .int .i64 0]) ∧ Kd.R (Kd.int .i64) 3 w' W.heap.size (fun _ => True) sv (itemsOf s id) ∧ VocAt w' v s ∧ Used (W.alloc (.cells #[.int .i64 id] 3)) v w' := by
 have hb := below_alloc (Below.refl W.heap.size W) (.cells #[.int .i64 id] 3)
 have hv2 := hv.below hb
 have hr : Kd.R (Kd.int .i64) 3 (W.alloc (.cells #[.int .i64 id] 3)) W.heap.size (fun _ => True) (.slice (some ⟨W.heap.size, 0, none⟩) 1 1) [id] := Kd.R_of_own (own_lit W W.heap.size 3 .i64 [id] (Nat.le_refl _) (by simp)) (fun _ _ => trivial)
 obtain ⟨cs, hcs⟩ := hv2.blk
 have h := Vc.items_any hv2 (some ⟨W.heap.size, 0, none⟩) 1 [id] (fun m => (Kd.R_reads' (Kd.R_set hr hcs (by decide) 13 (.int .i64 m))).2.2) (by simp)
 rw [hit] at h
 refine h.mono ?_
 rintro e w' ⟨sv, rfl, ho, hv', hu⟩
 exact ⟨sv, rfl, Kd.R_lower ho hb.size, hv', hu⟩
theorem feed_sk {w : World} {d v : Nat} {Ap : Option Addr} {cp g : Nat} {lv : Value} {p : List Int} {st : St} {s : Vc.Sp} (h : SkAt w d v Ap cp g lv p st.xs st.T st.L) (hv : VocAt w v s) (hvd : v < d) (hp : p ≠ []) (hpl : p.length ≤ 64) {N : Nat} (hst : StOk st N) (hN : N ≤ 100000) (ht0 : st.told = [])
  {A : Option Addr} {c : Nat} {ids : List Int} (hi : ∀ W, Fd d v w W → Kd.C (Kd.int .i64) W A ids.length ids) (hil : ids.length ≤ 4000) :
  Calls Tryz.prog 27 #[.pointer (some ⟨d, 0, none⟩), .slice A ids.length c] w fun e w' => (match ids.findIdx? (fun n => !hasId s n) with
   | some i => e = .returned (.tuple #[.slice none 0 0, .int .i64 (i : Int), .int .i64 4]) ∧ Below w.heap.size w w'
   | none => ∃ u lv', e = .returned (.tuple #[u, .int .i64 (ids.length : Int), .int .i64 0]) ∧ Kd.R k65 65 w' w.heap.size (fun _ => True) u (feedS s p st ids).told ∧ SkAt w' d v Ap cp g lv' p (feedS s p st ids).xs (feedS s p st ids).T (feedS s p st ids).L ∧ Fd d v w w' ∧ VocAt w' v s) := by
 have HB := As.mk (below_alloc (Below.refl w.heap.size w) (.cells #[.pointer (some ⟨d, 0, none⟩)] 57))
 have hdw := blk_lt h.blk
 have c0 := box_of w (.pointer (some ⟨d, 0, none⟩)) 57
 have hbox := (Go.MapKept.heap_alloc w (.cells #[.pointer (some ⟨d, 0, none⟩)] 57 (0, 0))).1
 have hf1 : Fd d v w (w.alloc (.cells #[.pointer (some ⟨d, 0, none⟩)] 57)) := .kp .refl (Kp.of HB.out (Nat.le_of_lt hdw))
 have hx := idxI A c ids 69 #[.pointer (some ⟨w.heap.size, 0, none⟩)] (fun n => !hasId s n) (enters_of Tryz.func69 (by kernel_rfl) rfl) (w.alloc (.cells #[.pointer (some ⟨d, 0, none⟩)] 57)) (hi _ hf1) (by omega)
  (fun W hW x hx => cloFeed (h.below (HB.out.trans (hW.mono HB.out.size))) (hv.below (HB.out.trans (hW.mono HB.out.size))) (pw_cell_below hW c0) x)
 have HX := As.mk hx
 have HS := As.mk h
 have HV := As.mk hv
 have HI := As.mk hi
 have HN := As.mk hbox
 have HDW := As.mk (And.intro hdw hvd)
 have HP := As.mk (And.intro hp hpl)
 have HST := As.mk (And.intro hst hN)
 have HT0 := As.mk ht0
 have hg : ¬ (4000 : Int) < (ids.length : Int) := by omega
 clear h hv hi hx hbox hst hf1
 cases hw : ids.findIdx? (fun n => !hasId s n) with
 | some i =>
  rw [hw] at HX
  unfold ix at HX
  simp only at HX ⊢
  have hi0 : (0 : Int) ≤ (i : Int) := by omega
  clear hw
  go_enter Tryz.func27, Tryz.ntmps27
  go_wp2_with (go_at_call 59; refine HX.out.mono ?_; rintro e w1 ⟨rfl, hb⟩; have HB1 := As.mk (HB.out.trans (hb.mono HB.out.size)); clear hb)
  go_ret3
  exact ⟨rfl, HB1.out⟩
 | none =>
  have HAS := As.mk (fun (x : Int) (hx : x ∈ ids) => (by have := List.findIdx?_eq_none_iff.1 hw x hx; simpa using this : hasId s x = true))
  rw [hw] at HX
  unfold ix at HX
  simp only at HX ⊢
  have hlen : ∀ id, (itemsOf s id).length ≤ 64 := fun id => items_len HV.out id
  have HLN := As.mk hlen
  clear hw hlen
  go_enter Tryz.func27, Tryz.ntmps27
  go_wp2_with (go_at_call 59; refine HX.out.mono ?_; rintro e w1 ⟨rfl, hb⟩; have HB1 := As.mk (HB.out.trans (hb.mono HB.out.size)); have HN1 := As.mk ((hb.block _ (blk_lt HN.out)).trans HN.out); clear hb c0)
  go_loopg [8, 29] ids.length (fun k v8 v29 W => ∃ (i : Nat) (lv : Value), v29 = .int .i64 (i : Int) ∧ i ≤ ids.length ∧ As (ids.length - i ≤ k) ∧ As (SkAt W d v Ap cp g lv p (feedS s p st (ids.take i)).xs (feedS s p st (ids.take i)).T (feedS s p st (ids.take i)).L) ∧ As (VocAt W v s) ∧ As (Fd d v w W) ∧ As (Kd.R k65 65 W w.heap.size (fun _ => True) v8 (feedS s p st (ids.take i)).told) ∧ As (W.heap[w.heap.size]? = some (.cells #[.pointer (some ⟨d, 0, none⟩)] 57 (0, 0))))
  case atStart => exact ⟨0, lv, rfl, Nat.zero_le _, ⟨by omega⟩, ⟨HS.out.below HB1.out⟩, ⟨HV.out.below HB1.out⟩, ⟨.kp .refl (Kp.of HB1.out (Nat.le_of_lt HDW.out.1))⟩, ⟨by show Kd.R _ _ _ _ _ _ st.told; rw [HT0.out]; exact Kd.R_nil _ _ _ _ _⟩, HN1⟩
  case round =>
   clear HN1
   obtain ⟨i, lv, rfl, hi, HK, HS, HV, HF, HO, HN⟩ := hrel
   rename World => W
   by_cases hlt : i < ids.length
   ·have hltI : (i : Int) < (ids.length : Int) := by omega
    obtain ⟨k1, rfl⟩ : ∃ k1, gk = k1 + 1 := ⟨gk - 1, by have := HK.out; omega⟩
    obtain ⟨id, hid⟩ : ∃ id, ids[i]? = some id := ⟨_, List.getElem?_eq_getElem hlt⟩
    have hmem := HAS.out id (List.mem_of_getElem? hid)
    obtain ⟨ad, rfl, xr⟩ := rd_at (HI.out W HF.out) hid
    have hnx := feedS_next s p st hid
    have hok := feedS_ok HLN.out (p := p) (ids.take i) HST.out.1
    rw [List.length_take] at hok
    have HNX := As.mk hnx
    have HOK := As.mk hok
    have HIT := As.mk (show itF s [id] 0 [] = (itemsOf s id, 1, 0) by unfold itF itF; rw [if_pos hmem]; rfl)
    clear hid hmem hnx hok
    generalize feedS s p st (ids.take i) = si at *
    have n0 := cell_of0 HN.out
    have c2 := cell_of (i := 2) HS.out.blk rfl
    have hTB := HOK.out
    have hNB := HST.out.2
    have hmin : min i ids.length ≤ 4000 := by omega
    have HBD := As.mk (show si.L.length ≤ 1000000 ∧ si.xs.length ≤ 1000000000 ∧ si.T ≤ 1000000000 ∧ si.told.length ≤ 10000000 from ⟨by have := hTB.L; omega, by have := hTB.xs; omega, by have := hTB.T; omega, by have := hTB.told; omega⟩)
    have HAT := As.mk hTB.at_
    obtain ⟨H, hH⟩ : ∃ H, H = (List.range (itemsOf s id).length).flatMap (hitF p si.xs (nextL p si) si.T (itemsOf s id)) := ⟨_, rfl⟩
    have HHL := As.mk (show H.length ≤ (itemsOf s id).length by rw [hH]; exact hit_len p si.xs (nextL p si) si.T (itemsOf s id) (itemsOf s id).length)
    have HHH := As.mk hH
    clear hH
    have HI64 := As.mk (HLN.out id)
    have hneb : w.heap.size ≠ v := by have := HDW.out; omega
    have hdsz := HF.out.size
    have hw29 : wrap64 ((i : Int) + 1) = (i : Int) + 1 := w64 (by omega) (by omega)
    have HHB := As.mk (And.intro hneb hdsz)
    clear hTB hNB hmin hneb hdsz
    go_wp2_with (first
     | (go_at_call 29; go_loud (refine (one_items HV.out id HIT.out).mono ?_; rintro e w3 ⟨sv, rfl, ho, hv, hu⟩; have hba := below_alloc (Below.refl W.heap.size W) (.cells #[.int .i64 id] 3); have hvb := (HV.out.below hba).blk; have HS3 := As.mk ((HS.out.below hba).used hvb hu); have HV3 := As.mk hv; have HF3 := As.mk (Fd.used (.kp HF.out (Kp.of hba (Nat.le_trans (Nat.le_of_lt HDW.out.1) HHB.out.2))) hvb hu); have HO3 := As.mk (R_used (Kd.R_below HO.out hba) hvb hu (by decide)); have HN3 := As.mk (blk_use hu ((hba.block _ (blk_lt HN.out)).trans HN.out) HHB.out.1); have HI3 := As.mk (Rw.of ho); clear ho hv hu hba hvb n0 c2 xr HV HF HO HN HS; obtain ⟨A3, c3, rfl⟩ := HI3.out.form; have n0 := cell_of0 HN3.out))
     | (go_at_call 71; go_loud (refine (token_sk HS3.out HP.out.1 HP.out.2 HBD.out.1 HAT.out HBD.out.2.1 HBD.out.2.2.1 HI3.out (by have := HI64.out; omega)).mono ?_; rintro e w4 ⟨u, lv4, rfl, ho, hs, hk⟩; have HU4 := As.mk (show Kd.R k65 65 w4 w3.heap.size (fun _ => True) u H by rw [HHH.out]; exact ho); have HS4 := As.mk hs; have HV4 := As.mk (VocAt_bel HV3.out hk.1 HDW.out.2); have HF4 := As.mk (Fd.kp HF3.out hk); have HO4 := As.mk (hk.R HO3.out (by decide)); have HN4 := As.mk (hk.2 _ _ HN3.out (fun cs fr e => by injection e with _ e _; exact absurd e (by decide)) (fun cs fr e => by injection e with _ e _; exact absurd e (by decide))); clear ho hs hk n0 HS3 HV3 HF3 HO3 HN3 HI3; obtain ⟨A4, c4, rfl⟩ := Kd.R_slice HU4.out))
     | ((with_reducible refine gate_builtin (b := .append) (xs := #[.tmp 44, .tmp 47]) rfl ?_); at_builtin; refine Kd.R_append_rows k65 (Rr := k65.K w4) (w0 := w4) w.heap.size rfl (.tmp 44) (.tmp 47) 60 65 (.agg #[.int .i64 0, .int .i64 0, .int .i64 0, .bool false]) 32 rfl Tryz.underlying60 info_mt rfl (by decide) (by omega) _ _ _ _ _ _ (fun _ => True) (fun _ => False) (by rfl) (by rfl) HO4.out (Kd.R_reads' HU4.out).2.2 (fun x cs hk => by rw [k65_open hk]; exact k65_mkM _ _ _ x) (fun _ hk => hk.elim) (fun _ _ => trivial) (Below.refl _ _) HF4.out.size (by have h1 := HBD.out.2.2.2; have h2 := HHL.out; have h3 := HI64.out; omega) ?_; intro u5 w5 ho hb hg hat; have hfar := match_far HO4.out hg; have HO5 := As.mk ho; have HS5 := As.mk (HS4.out.far hfar); have HF5 := As.mk (Fd.far HF4.out hg (fun j e => ((Kd.R_bound HO4.out).1 j e).2.1)); have HV5 := As.mk (VocAt_bel HV4.out ((Below.refl d w4).grown hg (Nat.le_trans (Nat.le_of_lt HDW.out.1) HF4.out.size) (fun j e => Nat.le_trans (Nat.le_of_lt HDW.out.1) ((Kd.R_bound HO4.out).1 j e).2.1)) HDW.out.2); have HN5 := As.mk ((hfar _ _ _ HN4.out (by decide)).trans HN4.out); clear ho hb hg hat hfar))
    go_roundg k1
    case measure => omega
    case rel => exact ⟨i + 1, lv4, by go_num, by omega, ⟨by have := HK.out; omega⟩, ⟨by rw [HNX.out]; exact HS5.out⟩, HV5, HF5, ⟨by rw [HNX.out]; show Kd.R _ _ _ _ _ _ (si.told ++ (List.range (itemsOf s id).length).flatMap (hitF p si.xs (nextL p si) si.T (itemsOf s id))); rw [← HHH.out]; exact HO5.out⟩, HN5⟩
   ·obtain rfl : i = ids.length := by omega
    have hS := HS.out
    have hO := HO.out
    rw [List.take_length] at hS hO
    have HSE := As.mk hS
    have HOE := As.mk hO
    clear hS hO
    go_wp2
    go_ret3
    exact ⟨_, lv, rfl, HOE.out, HSE.out, HF.out, HV.out⟩
end Go.Proofs.YtkffhgiiejbnaaaGreat.Sk
