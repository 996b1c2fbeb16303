import Derived.Test.YtkffhgiiejbnaaaGreatQHeapP
import Derived.Test.YtkffhgiiejbnaaaGreatQHp
set_option linter.unusedVariables false
set_option linter.unusedSimpArgs false
namespace Go.Proofs.YtkffhgiiejbnaaaGreat.Hq
open Go.RowKit Go.Proofs.YtkffhgiiejbnaaaGreatW.PrintWords Go.Proofs.YtkffhgiiejbnaaaGreatW.PrintLast Go.Proofs.YtkffhgiiejbnaaaGreatW.PrintMore Go.Proofs.YtkffhgiiejbnaaaGreat.Aid Go.Proofs.YtkffhgiiejbnaaaGreat.Mp Go.Proofs.YtkffhgiiejbnaaaGreat.Hp
set_option linter.unusedVariables false
set_option linter.unusedSimpArgs false
set_option maxHeartbeats 400000
theorem exec_store {P : Program} {ev : Operand → Value} {oi : Oper} {t : TypeId} {p x : Operand} {pv u : Value} {w w1 : World} (ho : oi.op = .store t p x) (hp : ev p = pv) (hx : ev x = u) (h : (Instr.storeAt t pv u).run P w = .ok () w1) : (execOp ev oi).run P w = .ok .skip w1 := by
  unfold execOp
  simp only [ho, hp, hx, Sem.run_bind, Sem.run_pure, Result.andThen_ok, h]
structure Wx where
  f : Int
  a : Int
  b : Int
def kTh : Kd (Th Wx) := Kd.iso (Kd.pair (Kd.int .i64) (Kd.pair (Kd.int .i64) (Kd.pair (Kd.int .i64) (Kd.pair (Kd.int .i64) (Kd.pair (Kd.int .i64) (Kd.int .i64)))))) (fun x : Th Wx => (x.r, x.p, x.t, x.x.f, x.x.a, x.x.b))
def cells6 (x : Th Wx) : List Value := [.int .i64 x.r, .int .i64 x.p, .int .i64 x.t, .int .i64 x.x.f, .int .i64 x.x.a, .int .i64 x.x.b]
theorem kTh_open {w : World} {x : Th Wx} {cs : List Value} (h : kTh.K w x cs) : cs = cells6 x := by
  obtain ⟨c1, c2, rfl, h1, h2⟩ := h
  obtain ⟨c3, c4, rfl, h3, h4⟩ := h2
  obtain ⟨c5, c6, rfl, h5, h6⟩ := h4
  obtain ⟨c7, c8, rfl, h7, h8⟩ := h6
  obtain ⟨c9, c10, rfl, h9, h10⟩ := h8
  have e1 : c1 = [.int .i64 x.r] := h1
  have e3 : c3 = [.int .i64 x.p] := h3
  have e5 : c5 = [.int .i64 x.t] := h5
  have e7 : c7 = [.int .i64 x.x.f] := h7
  have e9 : c9 = [.int .i64 x.x.a] := h9
  have e10 : c10 = [.int .i64 x.x.b] := h10
  subst e1; subst e3; subst e5; subst e7; subst e9; subst e10
  rfl
theorem kTh_mkM (w : World) (base : Nat) (ok : Nat → Prop) (x : Th Wx) : kTh.M w base ok x (cells6 x) := ⟨[.int .i64 x.r], _, rfl, rfl, ⟨[.int .i64 x.p], _, rfl, rfl, ⟨[.int .i64 x.t], _, rfl, rfl, ⟨[.int .i64 x.x.f], _, rfl, rfl, ⟨[.int .i64 x.x.a], [.int .i64 x.x.b], rfl, rfl, rfl⟩⟩⟩⟩⟩
theorem kTh_sz : kTh.sz = 6 := rfl
theorem kTh_E : kTh.E = [] := rfl
set_option maxRecDepth 100000 in
theorem less_any (a b : Th Wx) (w : World) : Calls Tryz.prog 189 #[.agg #[.int .i64 a.r, .int .i64 a.p, .int .i64 a.t], .agg #[.int .i64 b.r, .int .i64 b.p, .int .i64 b.t]] w fun e w' => e = .returned (.bool (lessT a b)) ∧ Below w.heap.size w w' := by
  obtain ⟨ar, ap, at_, ax⟩ := a
  obtain ⟨br, bp, bt, bx⟩ := b
  by_cases h1 : ar = br
  · subst h1
    by_cases h2 : ap = bp
    · subst h2
      have e : lessT (⟨ar, ap, at_, ax⟩ : Th Wx) ⟨ar, ap, bt, bx⟩ = decide (at_ < bt) := by unfold lessT; simp
      rw [e]
      have e1 : (ar != ar) = false := by simp
      have e2 : (ap != ap) = false := by simp
      clear e
      go_enter Tryz.func189, Tryz.ntmps189
      go_wp2
      go_ret
      exact ⟨rfl, below_alloc (below_alloc (Below.refl _ _) _) _⟩
    · have e : lessT (⟨ar, ap, at_, ax⟩ : Th Wx) ⟨ar, bp, bt, bx⟩ = decide (ap < bp) := by unfold lessT; simp [h2]
      rw [e]
      have e1 : (ar != ar) = false := by simp
      have e2 : (ap != bp) = true := by simpa using h2
      clear e h2
      go_enter Tryz.func189, Tryz.ntmps189
      go_wp2
      go_ret
      exact ⟨rfl, below_alloc (below_alloc (Below.refl _ _) _) _⟩
  · have e : lessT (⟨ar, ap, at_, ax⟩ : Th Wx) ⟨br, bp, bt, bx⟩ = decide (ar < br) := by unfold lessT; simp [h1]
    rw [e]
    have e1 : (ar != br) = true := by simpa using h1
    clear e h1
    go_enter Tryz.func189, Tryz.ntmps189
    go_wp2
    go_ret
    exact ⟨rfl, below_alloc (below_alloc (Below.refl _ _) _) _⟩
end Go.Proofs.YtkffhgiiejbnaaaGreat.Hq
namespace Go.Proofs.YtkffhgiiejbnaaaGreat.Hq
open Go.RowKit Go.Proofs.YtkffhgiiejbnaaaGreatW.PrintWords Go.Proofs.YtkffhgiiejbnaaaGreatW.PrintLast Go.Proofs.YtkffhgiiejbnaaaGreatW.PrintMore Go.Proofs.YtkffhgiiejbnaaaGreat.Aid Go.Proofs.YtkffhgiiejbnaaaGreat.Mp Go.Proofs.YtkffhgiiejbnaaaGreat.Hp
set_option linter.unusedVariables false
set_option linter.unusedSimpArgs false
set_option maxHeartbeats 400000
theorem cell_of {w : World} {p t i : Nat} {cs : Array Value} {v : Value} (h : w.heap[p]? = some (.cells cs t (0, 0))) (hv : cs[i]? = some v) : w.cell? ⟨p, i, none⟩ = some v := by simp only [World.cell?, h]; exact hv
structure HpAt (W : World) (base h : Nat) (v : Value) (n : Int) (l : List (Th Wx)) : Prop where
  le : base ≤ h
  blk : W.heap[h]? = some (.cells #[v, .int .i64 n] 288 (0, 0))
  rows : Kd.R kTh 294 W base (fun _ => True) v l
structure HK (h : Nat) (w w' : World) : Prop where
  size : w.heap.size ≤ w'.heap.size
  block : ∀ k, k < w.heap.size → k ≠ h → (∀ cs, w.heap[k]? ≠ some (.cells cs 294 (0, 0))) → w'.heap[k]? = w.heap[k]?
theorem HK.refl (h : Nat) (w : World) : HK h w w := ⟨Nat.le_refl _, fun _ _ _ _ => rfl⟩
theorem HK.trans {h : Nat} {a b c : World} (x : HK h a b) (y : HK h b c) : HK h a c :=
  ⟨Nat.le_trans x.size y.size, fun k hk hne ht => (y.block k (Nat.lt_of_lt_of_le hk x.size) hne (fun cs e => ht cs (by rw [← x.block k hk hne ht]; exact e))).trans (x.block k hk hne ht)⟩
theorem HK.of_below {h : Nat} {a b : World} (x : Below a.heap.size a b) : HK h a b := ⟨x.size, fun k hk _ _ => x.block k hk⟩
theorem HK.set {h : Nat} (w : World) (j : Nat) (u : Value) : HK h w (w.setCell ⟨h, j, none⟩ u) := ⟨by simp [World.setCell], fun k _ hne _ => Below.heap_setCell w ⟨h, j, none⟩ u k hne⟩
theorem HpAt.below {W W' : World} {base h : Nat} {v : Value} {n : Int} {l : List (Th Wx)} (H : HpAt W base h v n l) (hb : Below W.heap.size W W') : HpAt W' base h v n l :=
  ⟨H.le, (hb.block _ (blk_lt H.blk)).trans H.blk, Kd.R_below H.rows hb⟩
theorem HpAt.lt {W : World} {base h : Nat} {v : Value} {n : Int} {l : List (Th Wx)} (H : HpAt W base h v n l) : h < W.heap.size := blk_lt H.blk
theorem HpAt.form {W : World} {base h : Nat} {v : Value} {n : Int} {l : List (Th Wx)} (H : HpAt W base h v n l) (hl : 0 < l.length) : ∃ g cap, v = .slice (some ⟨g, 0, none⟩) l.length cap ∧ base ≤ g ∧ g < W.heap.size ∧ g ≠ h ∧ l.length ≤ cap ∧ ∃ cells, W.heap[g]? = some (.cells cells 294 (0, 0)) := by
  obtain ⟨g, cap, e, h1, h2, cells, h3⟩ := Kd.R_form H.rows hl
  refine ⟨g, cap, e, h1, h2, fun e2 => ?_, ?_, cells, h3⟩
  · subst e2; rw [H.blk] at h3; injection h3 with h3; injection h3 with _ h3; exact absurd h3 (by decide)
  · have := H.rows; rw [e] at this; exact (Kd.R_reads' this).2.1
theorem HpAt.elem {W : World} {base h g cap : Nat} {n : Int} {l : List (Th Wx)} (H : HpAt W base h (.slice (some ⟨g, 0, none⟩) l.length cap) n l) {i : Nat} {x : Th Wx} (hi : l[i]? = some x) :
    (∀ j u, (cells6 x)[j]? = some u → W.cell? ⟨g, i * 6 + j, none⟩ = some u) ∧ ∀ j, W.frozen? ⟨g, i * 6 + j, none⟩ = false := by
  have hlt : i < l.length := by rcases Nat.lt_or_ge i l.length with h | h; exact h; rw [List.getElem?_eq_none h] at hi; cases hi
  obtain ⟨c, h1, h2, h3, h4⟩ := Kd.R_elem H.rows x (i : Int) (by omega) (by omega)
  rw [Int.toNat_natCast, List.getD_eq_getElem?_getD, hi] at h2
  have hc := kTh_open (kTh.K_of_M h2)
  subst hc
  simp only [Int.toNat_natCast, kTh_sz] at h3 h4
  exact ⟨h3, h4⟩
theorem HpAt.put {W : World} {base h g cap : Nat} {n : Int} {l : List (Th Wx)} (H : HpAt W base h (.slice (some ⟨g, 0, none⟩) l.length cap) n l) {i : Nat} (hi : i < l.length) (x : Th Wx) :
    HpAt (W.setCells g (i * 6) (cells6 x)) base h (.slice (some ⟨g, 0, none⟩) (l.set i x).length cap) n (l.set i x) ∧ Below base W (W.setCells g (i * 6) (cells6 x)) ∧ HK h W (W.setCells g (i * 6) (cells6 x)) ∧ (W.setCells g (i * 6) (cells6 x)).heap.size = W.heap.size := by
  obtain ⟨g', cap', e, hb, hlt, hne, _, cells, hg⟩ := H.form (by omega)
  injection e with e _ e3
  injection e with e
  injection e with e
  subst e; subst e3
  obtain ⟨q1, q2⟩ := H.elem (List.getElem?_eq_getElem hi)
  obtain ⟨r1, r2⟩ := Kd.R_seg (okp := fun _ => False) (c := cells6 l[i]) (seg := cells6 x) (j := 0) (x' := x) H.rows (i : Int) (by omega) (by omega) rfl (fun j u hu => by rw [Int.toNat_natCast]; exact q1 j u hu) (by show 0 + 6 ≤ 6; decide) (kTh_mkM W base _ x) (fun _ h => h.elim)
  rw [Int.toNat_natCast] at r1 r2
  simp only [kTh_sz, Nat.add_zero] at r1 r2
  have hs : (W.setCells g (i * 6) (cells6 x)).heap.size = W.heap.size := (setCells_same g (cells6 x) (i * 6) W).2.2.2
  refine ⟨⟨H.le, by rw [List.length_set]; exact (r2.block _ H.lt (fun e => by injection e with e; exact hne e.symm)).trans H.blk, by rw [List.length_set]; exact r1⟩, ⟨r2.os, r2.tape, r2.output, r2.size, fun k hk => ?_⟩, ⟨r2.size, fun k hk _ ht => r2.block k hk (fun e => by injection e with e; subst e; exact ht _ hg)⟩, hs⟩
  by_cases hk2 : k < W.heap.size
  · exact r2.block k hk2 (fun e => by injection e with e; omega)
  · rw [Array.getElem?_eq_none (by omega), Array.getElem?_eq_none (by omega)]
theorem info_th : (Tryz.prog.info? 294).map (·.size) = some 6 := by kernel_rfl
set_option maxRecDepth 100000 in
theorem HpAt.store {W : World} {base h g cap : Nat} {n : Int} {l : List (Th Wx)} (H : HpAt W base h (.slice (some ⟨g, 0, none⟩) l.length cap) n l) {i : Nat} (hi : i < l.length) (x : Th Wx) :
    (Instr.storeAt 294 (.pointer (some ⟨g, i * 6, none⟩)) (.agg #[.int .i64 x.r, .int .i64 x.p, .int .i64 x.t, .int .i64 x.x.f, .int .i64 x.x.a, .int .i64 x.x.b])).run Tryz.prog W = .ok () (W.setCells g (i * 6) (cells6 x)) := by
  obtain ⟨_, inner, hown, hr⟩ := H.rows
  rcases hown.2 with ⟨hv, _⟩ | ⟨g', cap', cur, hv, hb, hh, hnc, hcm, hcs, _⟩
  · cases hv
  injection hv with ha _ hc
  injection ha with ha
  injection ha with hg'
  subst hg'; subst hc
  refine run_store_run _ _ (cells6 x) hh rfl info_th ?_ (fun q hq => ?_)
  · have h2 : i * 6 + 6 ≤ l.length * 6 := by omega
    have h3 : l.length * 6 ≤ cap * 6 := Nat.mul_le_mul_right _ hnc
    have h4 : cur.size = cap * 6 := hcs
    show i * 6 + 6 ≤ _
    omega
  · simp only [cells6, List.mem_cons, List.mem_nil_iff, or_false] at hq
    rcases hq with rfl | rfl | rfl | rfl | rfl | rfl <;> rfl
end Go.Proofs.YtkffhgiiejbnaaaGreat.Hq
