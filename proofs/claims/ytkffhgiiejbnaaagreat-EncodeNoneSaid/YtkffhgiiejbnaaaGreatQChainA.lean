import Derived.Test.YtkffhgiiejbnaaaGreatQChainP
import Derived.Test.YtkffhgiiejbnaaaGreatQHeapH
import Derived.Test.YtkffhgiiejbnaaaGreatQTokE
set_option linter.unusedVariables false
set_option linter.unusedSimpArgs false
namespace Go.Proofs.YtkffhgiiejbnaaaGreat.Ch
open Go.RowKit Go.Proofs.YtkffhgiiejbnaaaGreatW.PrintWords Go.Proofs.YtkffhgiiejbnaaaGreatW.PrintLast Go.Proofs.YtkffhgiiejbnaaaGreatW.PrintMore Go.Proofs.YtkffhgiiejbnaaaGreat.Aid Go.Proofs.YtkffhgiiejbnaaaGreat.Mp Go.Proofs.YtkffhgiiejbnaaaGreat.Hp Go.Proofs.YtkffhgiiejbnaaaGreat.Hq Go.Proofs.YtkffhgiiejbnaaaGreat.Tk
set_option linter.unusedVariables false
set_option linter.unusedSimpArgs false
set_option maxHeartbeats 400000
def kNd : Kd Nd := Kd.iso (Kd.pair (Kd.int .i64) (Kd.pair (Kd.int .i64) (Kd.int .i64))) (fun x : Nd => (x.id, x.ahead, x.next))
def cells3 (x : Nd) : List Value := [.int .i64 x.id, .int .i64 x.ahead, .int .i64 x.next]
theorem kNd_open {w : World} {x : Nd} {cs : List Value} (h : kNd.K w x cs) : cs = cells3 x := by
  obtain ⟨c1, c2, rfl, h1, h2⟩ := h
  obtain ⟨c3, c4, rfl, h3, h4⟩ := h2
  have e1 : c1 = [.int .i64 x.id] := h1
  have e3 : c3 = [.int .i64 x.ahead] := h3
  have e4 : c4 = [.int .i64 x.next] := h4
  subst e1; subst e3; subst e4
  rfl
theorem kNd_mkM (w : World) (base : Nat) (ok : Nat → Prop) (x : Nd) : kNd.M w base ok x (cells3 x) := ⟨[.int .i64 x.id], _, rfl, rfl, ⟨[.int .i64 x.ahead], [.int .i64 x.next], rfl, rfl, rfl⟩⟩
theorem kNd_sz : kNd.sz = 3 := rfl
theorem kNd_E : kNd.E = [] := rfl
theorem info_nd : (Tryz.prog.info? 280).map (fun i => (i.zero, i.size, i.bytes)) = some (some (.agg #[.int .i64 0, .int .i64 0, .int .i64 0]), 3, 24) := by kernel_rfl
structure LkAt (W : World) (base c : Nat) (v : Value) (pt q : Nat) (lim st : Int) (L : List Nd) : Prop where
  le : base ≤ c
  ne : c ≠ q
  blk : W.heap[c]? = some (.cells #[.pointer (some ⟨pt, 0, none⟩), v, .pointer (some ⟨q, 0, none⟩), .int .i64 lim, .int .i64 st] 278 (0, 0))
  qt : ∃ cs, W.heap[q]? = some (.cells cs 288 (0, 0))
  rows : Kd.R kNd 280 W base (fun _ => True) v L
theorem LkAt.lt {W : World} {base c : Nat} {v : Value} {pt q : Nat} {lim st : Int} {L : List Nd} (H : LkAt W base c v pt q lim st L) : c < W.heap.size := blk_lt H.blk
theorem LkAt.below {W W' : World} {base c : Nat} {v : Value} {pt q : Nat} {lim st : Int} {L : List Nd} (H : LkAt W base c v pt q lim st L) (hb : Below W.heap.size W W') : LkAt W' base c v pt q lim st L := by
  obtain ⟨cs, hq⟩ := H.qt
  exact ⟨H.le, H.ne, (hb.block _ (blk_lt H.blk)).trans H.blk, ⟨cs, (hb.block _ (blk_lt hq)).trans hq⟩, Kd.R_below H.rows hb⟩
theorem LkAt.kept {W W' : World} {base c : Nat} {v : Value} {pt q : Nat} {lim st : Int} {L : List Nd} (H : LkAt W base c v pt q lim st L) (hk : HK q W W') (hq : ∃ cs, W'.heap[q]? = some (.cells cs 288 (0, 0))) : LkAt W' base c v pt q lim st L := by
  refine ⟨H.le, H.ne, hk.blk H.blk H.ne (by decide), hq, ?_⟩
  obtain ⟨cs, hq0⟩ := H.qt
  refine Kd.R_mono (Kd.R_move (Kd.R_bound H.rows) (fun k hk2 => ?_)) (fun _ _ => trivial)
  obtain ⟨_, _, hlt, t, ht, cells, hc⟩ := hk2
  simp only [kNd_E, List.mem_singleton] at ht
  subst ht
  refine (hk.blk hc (fun e => ?_) (by decide)).trans hc.symm
  subst e
  rw [hq0] at hc
  injection hc with hc
  injection hc with _ hc
  exact absurd hc (by decide)
theorem LkAt.form {W : World} {base c : Nat} {v : Value} {pt q : Nat} {lim st : Int} {L : List Nd} (H : LkAt W base c v pt q lim st L) (hl : 0 < L.length) : ∃ g cap, v = .slice (some ⟨g, 0, none⟩) L.length cap ∧ base ≤ g ∧ g < W.heap.size ∧ g ≠ c ∧ g ≠ q ∧ L.length ≤ cap ∧ ∃ cells, W.heap[g]? = some (.cells cells 280 (0, 0)) := by
  obtain ⟨g, cap, e, h1, h2, cells, h3⟩ := Kd.R_form H.rows hl
  refine ⟨g, cap, e, h1, h2, fun e2 => ?_, fun e2 => ?_, ?_, cells, h3⟩
  · subst e2; rw [H.blk] at h3; injection h3 with h3; injection h3 with _ h3; exact absurd h3 (by decide)
  · subst e2; obtain ⟨cs, hq⟩ := H.qt; rw [hq] at h3; injection h3 with h3; injection h3 with _ h3; exact absurd h3 (by decide)
  · have := H.rows; rw [e] at this; exact (Kd.R_reads' this).2.1
theorem LkAt.elem {W : World} {base c g cap n : Nat} {pt q : Nat} {lim st : Int} {L : List Nd} (H : LkAt W base c (.slice (some ⟨g, 0, none⟩) n cap) pt q lim st L) {i : Nat} {x : Nd} (hi : L[i]? = some x) :
    (∀ j u, (cells3 x)[j]? = some u → W.cell? ⟨g, i * 3 + j, none⟩ = some u) ∧ ∀ j, W.frozen? ⟨g, i * 3 + j, none⟩ = false := by
  have hlt : i < L.length := by rcases Nat.lt_or_ge i L.length with h | h; exact h; rw [List.getElem?_eq_none h] at hi; cases hi
  have hn := (Kd.R_reads' H.rows).1
  obtain ⟨cc, h1, h2, h3, h4⟩ := Kd.R_elem H.rows x (i : Int) (by omega) (by omega)
  rw [Int.toNat_natCast, List.getD_eq_getElem?_getD, hi] at h2
  have hc := kNd_open (kNd.K_of_M h2)
  subst hc
  simp only [Int.toNat_natCast, kNd_sz] at h3 h4
  exact ⟨h3, h4⟩
theorem LkAt.c {W : World} {base c : Nat} {v : Value} {pt q : Nat} {lim st : Int} {L : List Nd} (H : LkAt W base c v pt q lim st L) : W.cell? ⟨c, 0, none⟩ = some (.pointer (some ⟨pt, 0, none⟩)) ∧ W.cell? ⟨c, 1, none⟩ = some v ∧ W.cell? ⟨c, 2, none⟩ = some (.pointer (some ⟨q, 0, none⟩)) ∧ W.cell? ⟨c, 3, none⟩ = some (.int .i64 lim) ∧ W.cell? ⟨c, 4, none⟩ = some (.int .i64 st) :=
  ⟨cell_of H.blk rfl, cell_of H.blk rfl, cell_of H.blk rfl, cell_of H.blk rfl, cell_of H.blk rfl⟩
theorem LkAt.put {W : World} {base c g cap n : Nat} {pt q : Nat} {lim st : Int} {L : List Nd} (H : LkAt W base c (.slice (some ⟨g, 0, none⟩) n cap) pt q lim st L) {i : Nat} {x : Nd} (hi : L[i]? = some x) (j : Nat) (u : Value) (x' : Nd) (hj : j + 1 ≤ 3) (hx : (cells3 x).take j ++ [u] ++ (cells3 x).drop (j + 1) = cells3 x') :
    LkAt (W.setCell ⟨g, i * 3 + j, none⟩ u) base c (.slice (some ⟨g, 0, none⟩) n cap) pt q lim st (L.set i x') ∧ Below base W (W.setCell ⟨g, i * 3 + j, none⟩ u) ∧ (∃ cells, W.heap[g]? = some (.cells cells 280 (0, 0))) ∧ g ≠ q := by
  have hlt : i < L.length := by rcases Nat.lt_or_ge i L.length with h | h; exact h; rw [List.getElem?_eq_none h] at hi; cases hi
  obtain ⟨g', cap', e, hb, hgl, hne, hnq, _, cells, hg⟩ := H.form (by omega)
  injection e with e e2 e3
  injection e with e
  injection e with e
  subst e; subst e3; subst e2
  obtain ⟨q1, q2⟩ := H.elem hi
  obtain ⟨r1, r2⟩ := Kd.R_seg (okp := fun _ => False) (c := cells3 x) (seg := [u]) (j := j) (x' := x') H.rows (i : Int) (by omega) (by omega) rfl (fun j u hu => by rw [Int.toNat_natCast]; exact q1 j u hu) hj (by show kNd.M W base _ x' ((cells3 x).take j ++ [u] ++ (cells3 x).drop (j + 1)); rw [hx]; exact kNd_mkM W base _ x') (fun _ h => h.elim)
  rw [Int.toNat_natCast] at r1 r2
  have hw : W.setCells g (i * kNd.sz + j) [u] = W.setCell ⟨g, i * 3 + j, none⟩ u := rfl
  rw [hw] at r1 r2
  obtain ⟨cs, hq⟩ := H.qt
  refine ⟨⟨H.le, H.ne, (Below.heap_setCell W ⟨g, i * 3 + j, none⟩ u c (Ne.symm hne)).trans H.blk, ⟨cs, (Below.heap_setCell W ⟨g, i * 3 + j, none⟩ u q (Ne.symm hnq)).trans hq⟩, r1⟩, (Below.refl base W).setCell (p := ⟨g, i * 3 + j, none⟩) hb u, ⟨cells, hg⟩, hnq⟩
end Go.Proofs.YtkffhgiiejbnaaaGreat.Ch
