import Derived.Test.YtkffhgiiejbnaaaGreatQAid
import Derived.Test.YtkffhgiiejbnaaaGreatQHp
set_option maxRecDepth 100000
set_option maxHeartbeats 400000
set_option linter.unusedVariables false
set_option linter.unusedSimpArgs false
namespace Go.Proofs.YtkffhgiiejbnaaaGreat.Hq
structure Th (α : Type) where
 r : Int
 p : Int
 t : Int
 x : α
variable {α : Type}
def lessT (a b : Th α) : Bool := if a.r ≠ b.r then decide (a.r < b.r) else if a.p ≠ b.p then decide (a.p < b.p) else decide (a.t < b.t)
theorem less_iff (a b : Th α) : lessT a b = true ↔ a.r < b.r ∨ (a.r = b.r ∧ (a.p < b.p ∨ (a.p = b.p ∧ a.t < b.t))) := by
 unfold lessT; split
 ·simp; omega
 ·split
  ·simp; omega
  ·simp; omega
def Le (a b : Th α) : Prop := lessT b a = false
theorem le_iff (a b : Th α) : Le a b ↔ ¬ (b.r < a.r ∨ (b.r = a.r ∧ (b.p < a.p ∨ (b.p = a.p ∧ b.t < a.t)))) := by
 unfold Le; rw [← less_iff]; simp
theorem Le.refl (a : Th α) : Le a a := by rw [le_iff]; omega
theorem Le.trans {a b c : Th α} (h : Le a b) (k : Le b c) : Le a c := by rw [le_iff] at *; omega
theorem Le.of_less {a b : Th α} (h : lessT a b = true) : Le a b := by rw [less_iff] at h; rw [le_iff]; omega
def swapL (l : List (Th α)) (i k : Nat) : List (Th α) := if h : i < l.length ∧ k < l.length then (l.set i (l[k]'h.2)).set k (l[i]'h.1) else l
theorem swap_len (l : List (Th α)) (i k : Nat) : (swapL l i k).length = l.length := by unfold swapL; split <;> simp
theorem swap_get {l : List (Th α)} {i k : Nat} (hi : i < l.length) (hk : k < l.length) (j : Nat) : (swapL l i k)[j]? = if j = k then l[i]? else if j = i then l[k]? else l[j]? := by
 unfold swapL
 simp only [hi, hk, and_self, dite_true]
 rw [List.getElem?_set, List.getElem?_set]
 by_cases e : k = j
 ·subst e; simp [hi, hk]
 ·rw [if_neg e, if_neg (Ne.symm e)]
  by_cases e2 : i = j
  ·subst e2; simp [hi, hk]
  ·rw [if_neg e2, if_neg (Ne.symm e2)]
theorem swap_perm {l : List (Th α)} {i k : Nat} : (swapL l i k).Perm l := by
 unfold swapL
 split
 ·rename_i h
  exact List.set_set_perm h.1 h.2
 ·exact List.Perm.refl _
def Rel (l : List (Th α)) (i j : Nat) : Prop := ∀ x y, l[i]? = some x → l[j]? = some y → Le x y
theorem Rel.trans {l : List (Th α)} {i j k : Nat} (hj : j < l.length) (h : Rel l i j) (h2 : Rel l j k) : Rel l i k := fun x y hx hy => (h x _ hx (List.getElem?_eq_getElem hj)).trans (h2 _ y (List.getElem?_eq_getElem hj) hy)
theorem Rel.refl (l : List (Th α)) (i : Nat) : Rel l i i := fun x y hx hy => by rw [hx] at hy; injection hy with h; subst h; exact Le.refl _
theorem Rel.out {l : List (Th α)} {i j : Nat} (h : l.length ≤ j) : Rel l i j := fun x y hx hy => by rw [List.getElem?_eq_none h] at hy; cases hy
def Heap (l : List (Th α)) : Prop := ∀ j, 0 < j → Rel l ((j - 1) / 2) j
def UpInv (l : List (Th α)) (k : Nat) : Prop := (∀ j, 0 < j → j ≠ k → Rel l ((j - 1) / 2) j) ∧ (∀ c, 0 < c → (c - 1) / 2 = k → 0 < k → Rel l ((k - 1) / 2) c)
theorem up_done {l : List (Th α)} {k : Nat} (h : UpInv l k) (hk : k = 0 ∨ Rel l ((k - 1) / 2) k) : Heap l := fun j hj => by
 by_cases e : j = k
 ·subst e
  rcases hk with hk | hk
  ·omega
  ·exact hk
 ·exact h.1 j hj e
theorem up_step {l : List (Th α)} {k : Nat} (h : UpInv l k) (hk : k < l.length) (h0 : 0 < k) (hl : Rel l k ((k - 1) / 2)) : UpInv (swapL l k ((k - 1) / 2)) ((k - 1) / 2) := by
 have ho : (k - 1) / 2 < l.length := by omega
 have hne : (k - 1) / 2 ≠ k := by omega
 refine ⟨fun j hj hjo => ?_, fun c hc hco ho0 => ?_⟩
 ·intro x y hx hy
  rw [swap_get hk ho] at hx hy
  by_cases e1 : j = k
  ·subst e1
   rw [if_pos rfl] at hx
   rw [if_neg (Ne.symm hne), if_pos rfl] at hy
   exact hl x y hx hy
  ·rw [if_neg hjo, if_neg e1] at hy
   by_cases e2 : (j - 1) / 2 = (k - 1) / 2
   ·rw [if_pos e2] at hx
    have h1 := h.1 j hj e1
    rw [e2] at h1
    exact (hl.trans ho h1) x y hx hy
   ·rw [if_neg e2] at hx
    by_cases e3 : (j - 1) / 2 = k
    ·rw [if_pos e3] at hx
     exact h.2 j hj e3 h0 x y hx hy
    ·rw [if_neg e3] at hx
     exact h.1 j hj e1 x y hx hy
 ·intro x y hx hy
  rw [swap_get hk ho] at hx hy
  have e0 : ((k - 1) / 2 - 1) / 2 ≠ (k - 1) / 2 := by omega
  have e1 : ((k - 1) / 2 - 1) / 2 ≠ k := by omega
  rw [if_neg e0, if_neg e1] at hx
  have hg := h.1 ((k - 1) / 2) ho0 hne
  by_cases e2 : c = k
  ·subst e2
   rw [if_neg (Ne.symm hne), if_pos rfl] at hy
   exact hg x y hx hy
  ·have e3 : c ≠ (k - 1) / 2 := by omega
   rw [if_neg e3, if_neg e2] at hy
   have h1 := h.1 c hc e2
   rw [hco] at h1
   exact (hg.trans ho h1) x y hx hy
theorem push_inv {l : List (Th α)} {x : Th α} (h : Heap l) : UpInv (l ++ [x]) l.length := by
 refine ⟨fun j hj hjk a b ha hb => ?_, fun c hc hck hk a b ha hb => ?_⟩
 ·have hjl : j < l.length := by
   rcases Nat.lt_or_ge j l.length with h | h
   ·exact h
   ·rw [List.getElem?_eq_none (by simp; omega)] at hb; cases hb
  rw [List.getElem?_append_left hjl] at hb
  rw [List.getElem?_append_left (by omega)] at ha
  exact h j hj a b ha hb
 ·rw [List.getElem?_eq_none (by simp; omega)] at hb; cases hb
def DownInv (l : List (Th α)) (k : Nat) : Prop := (∀ j, 0 < j → (j - 1) / 2 ≠ k → Rel l ((j - 1) / 2) j) ∧ (∀ c, 0 < c → (c - 1) / 2 = k → 0 < k → Rel l ((k - 1) / 2) c)
def pickF (l : List (Th α)) (k m : Nat) : Nat := match l[k]?, l[m]? with
 | some x, some y => if lessT x y = true then k else m
 | _, _ => m
theorem pick_spec {l : List (Th α)} {k m : Nat} (hm : m < l.length) : pickF l k m < l.length ∧ (pickF l k m = k ∨ pickF l k m = m) ∧ Rel l (pickF l k m) k ∧ Rel l (pickF l k m) m := by
 unfold pickF
 by_cases hk : k < l.length
 ·rw [List.getElem?_eq_getElem hk, List.getElem?_eq_getElem hm]
  by_cases hl : lessT l[k] l[m] = true
  ·simp only [hl, if_true]
   refine ⟨hk, .inl trivial, Rel.refl _ _, fun x y hx hy => ?_⟩
   rw [List.getElem?_eq_getElem hk] at hx
   rw [List.getElem?_eq_getElem hm] at hy
   injection hx with hx; injection hy with hy; subst hx; subst hy
   exact Le.of_less hl
  ·have hl' := Bool.eq_false_iff.2 hl
   simp only [hl', Bool.false_eq_true, if_false]
   refine ⟨hm, .inr trivial, fun x y hx hy => ?_, Rel.refl _ _⟩
   rw [List.getElem?_eq_getElem hm] at hx
   rw [List.getElem?_eq_getElem hk] at hy
   injection hx with hx; injection hy with hy; subst hx; subst hy
   exact hl'
 ·rw [List.getElem?_eq_none (by omega)]
  exact ⟨hm, .inr rfl, Rel.out (by omega), Rel.refl _ _⟩
def leastF (l : List (Th α)) (i : Nat) : Nat := pickF l (2 * i + 2) (pickF l (2 * i + 1) i)
theorem least_spec {l : List (Th α)} {i : Nat} (hi : i < l.length) : leastF l i < l.length ∧ (leastF l i = i ∨ leastF l i = 2 * i + 1 ∨ leastF l i = 2 * i + 2) ∧ Rel l (leastF l i) i ∧ Rel l (leastF l i) (2 * i + 1) ∧ Rel l (leastF l i) (2 * i + 2) := by
 obtain ⟨a1, a2, a3, a4⟩ := pick_spec (k := 2 * i + 1) hi
 obtain ⟨b1, b2, b3, b4⟩ := pick_spec (k := 2 * i + 2) a1
 refine ⟨b1, ?_, b4.trans a1 a4, b4.trans a1 a3, b3⟩
 show pickF l (2 * i + 2) (pickF l (2 * i + 1) i) = _ ∨ _
 rcases b2 with b2 | b2
 ·exact .inr (.inr b2)
 ·rcases a2 with a2 | a2
  ·exact .inr (.inl (b2.trans a2))
  ·exact .inl (b2.trans a2)
theorem down_done {l : List (Th α)} {k : Nat} (h : DownInv l k) (h1 : Rel l k (2 * k + 1)) (h2 : Rel l k (2 * k + 2)) : Heap l := fun j hj => by
 by_cases e : (j - 1) / 2 = k
 ·rcases (by omega : j = 2 * k + 1 ∨ j = 2 * k + 2) with e1 | e1
  ·rw [e, e1]; exact h1
  ·rw [e, e1]; exact h2
 ·exact h.1 j hj e
theorem down_step {l : List (Th α)} {k m : Nat} (h : DownInv l k) (hk : k < l.length) (hm : m < l.length) (hmk : m = 2 * k + 1 ∨ m = 2 * k + 2) (h0 : Rel l m k) (h1 : Rel l m (2 * k + 1)) (h2 : Rel l m (2 * k + 2)) : DownInv (swapL l k m) m := by
 have hne : m ≠ k := by omega
 refine ⟨fun j hj hjo => ?_, fun c hc hco hm0 => ?_⟩
 ·intro x y hx hy
  rw [swap_get hk hm] at hx hy
  rw [if_neg hjo] at hx
  by_cases e1 : (j - 1) / 2 = k
  ·rw [if_pos e1] at hx
   by_cases e2 : j = m
   ·subst e2
    rw [if_pos rfl] at hy
    exact h0 x y hx hy
   ·have e3 : j ≠ k := by omega
    rw [if_neg e2, if_neg e3] at hy
    rcases (by omega : j = 2 * k + 1 ∨ j = 2 * k + 2) with e4 | e4
    ·subst e4; exact h1 x y hx hy
    ·subst e4; exact h2 x y hx hy
  ·rw [if_neg e1] at hx
   by_cases e2 : j = m
   ·omega
   ·rw [if_neg e2] at hy
    by_cases e3 : j = k
    ·subst e3
     rw [if_pos rfl] at hy
     exact h.2 m (by omega) (by omega) hj x y hx hy
    ·rw [if_neg e3] at hy
     exact h.1 j hj e1 x y hx hy
 ·intro x y hx hy
  rw [swap_get hk hm] at hx hy
  have e1 : (m - 1) / 2 = k := by omega
  have e2 : k ≠ m := by omega
  rw [e1, if_neg e2, if_pos rfl] at hx
  have e3 : c ≠ m := by omega
  have e4 : c ≠ k := by omega
  rw [if_neg e3, if_neg e4] at hy
  have := h.1 c hc (by omega)
  rw [hco] at this
  exact this x y hx hy
def downF : Nat → List (Th α) → Nat → List (Th α)
 | 0, l, _ => l
 | f + 1, l, k => if leastF l k = k then l else downF f (swapL l k (leastF l k)) (leastF l k)
theorem downF_perm : ∀ (f : Nat) (l : List (Th α)) (k : Nat), (downF f l k).Perm l
 | 0, l, k => List.Perm.refl _
 | f + 1, l, k => by
  unfold downF
  split
  ·exact List.Perm.refl _
  ·exact (downF_perm f _ _).trans swap_perm
theorem heap_least {l : List (Th α)} (h : Heap l) : ∀ j, Rel l 0 j := by
 intro j
 induction j using Nat.strongRecOn with
 | ind j ih =>
  by_cases e : j = 0
  ·subst e; exact Rel.refl _ _
  ·by_cases hj : j < l.length
   ·exact (ih ((j - 1) / 2) (by omega)).trans (by omega) (h j (by omega))
   ·exact Rel.out (by omega)
def popF (l : List (Th α)) : List (Th α) := downF l.length ((swapL l 0 (l.length - 1)).take (l.length - 1)) 0
theorem pop_inv {l : List (Th α)} (h : Heap l) (hl : 0 < l.length) : DownInv ((swapL l 0 (l.length - 1)).take (l.length - 1)) 0 := by
 refine ⟨fun j hj hjo => ?_, fun c hc hco h0 => by omega⟩
 intro x y hx hy
 by_cases hjl : j < l.length - 1
 ·rw [List.getElem?_take_of_lt (by omega), swap_get hl (by omega)] at hx hy
  rw [if_neg (by omega), if_neg (by omega)] at hx hy
  exact h j hj x y hx hy
 ·rw [List.getElem?_eq_none (by rw [List.length_take, swap_len]; omega)] at hy; cases hy
theorem popF_perm {l : List (Th α)} {x : Th α} (hx : l[0]? = some x) : (x :: popF l).Perm l := by
 have hl : 0 < l.length := by rcases Nat.eq_zero_or_pos l.length with h | h; rw [List.getElem?_eq_none (by omega)] at hx; cases hx; exact h
 have h1 : (popF l).Perm ((swapL l 0 (l.length - 1)).take (l.length - 1)) := downF_perm _ _ _
 refine (List.Perm.cons x h1).trans ?_
 have h2 : (swapL l 0 (l.length - 1)) = (swapL l 0 (l.length - 1)).take (l.length - 1) ++ [x] := by
  have hd := List.take_append_drop (l.length - 1) (swapL l 0 (l.length - 1))
  have hg : (swapL l 0 (l.length - 1)).drop (l.length - 1) = [x] := by
   have hlast : (swapL l 0 (l.length - 1))[l.length - 1]? = some x := by
    rw [swap_get hl (by omega), if_pos rfl]; exact hx
   have hlt : l.length - 1 < (swapL l 0 (l.length - 1)).length := by rw [swap_len]; omega
   rw [List.drop_eq_getElem_cons hlt, List.drop_eq_nil_of_le (by rw [swap_len]; omega)]
   rw [List.getElem?_eq_getElem hlt] at hlast
   injection hlast with hlast
   rw [hlast]
  rw [hg] at hd
  exact hd.symm
 have h3 : (x :: (swapL l 0 (l.length - 1)).take (l.length - 1)).Perm (swapL l 0 (l.length - 1)) := by
  conv => rhs; rw [h2]
  exact (List.perm_append_singleton x _).symm
 exact h3.trans swap_perm
end Go.Proofs.YtkffhgiiejbnaaaGreat.Hq
namespace Go.Proofs.YtkffhgiiejbnaaaGreat.Hq
open Go.RowKit YtkffhgiiejbnaaaGreatW.PrintWords YtkffhgiiejbnaaaGreatW.PrintLast YtkffhgiiejbnaaaGreatW.PrintMore Aid Mp Hp
theorem exec_store {P : Program} {ev : Operand → Value} {oi : Oper} {t : TypeId} {p x : Operand} {pv u : Value} {w w1 : World} (ho : oi.op = .store t p x) (hp : ev p = pv) (hx : ev x = u) (h : (Instr.storeAt t pv u).run P w = .ok () w1) : (execOp ev oi).run P w = .ok .skip w1 := by
 unfold execOp
 simp only [ho, hp, hx, Sem.run_bind, Sem.run_pure, Result.andThen_ok, h]
structure Wx where
 f : Int
 a : Int
 b : Int
def kTh : Kd (Th Wx) := Kd.iso (Kd.pair (Kd.int .i64) (Kd.pair (Kd.int .i64) (Kd.pair (Kd.int .i64) (Kd.pair (Kd.int .i64) (Kd.pair (Kd.int .i64) (Kd.int .i64)))))) (fun x : Th Wx => (x.r, x.p, x.t, x.x.f, x.x.a, x.x.b))
def cells6 (x : Th Wx) : List Value := [.int .i64 x.r, .int .i64 x.p, .int .i64 x.t, .int .i64 x.x.f, .int .i64 x.x.a, .int .i64 x.x.b]
theorem kTh_open {w : World} {x : Th Wx} {cs : List Value} (h : kTh.K w x cs) : cs = cells6 x := by
 obtain ⟨c1, c2, rfl, h1, h2⟩ := h
 obtain ⟨c3, c4, rfl, h3, h4⟩ := h2
 obtain ⟨c5, c6, rfl, h5, h6⟩ := h4
 obtain ⟨c7, c8, rfl, h7, h8⟩ := h6
 obtain ⟨c9, c10, rfl, h9, h10⟩ := h8
 have e1 : c1 = [.int .i64 x.r] := h1
 have e3 : c3 = [.int .i64 x.p] := h3
 have e5 : c5 = [.int .i64 x.t] := h5
 have e7 : c7 = [.int .i64 x.x.f] := h7
 have e9 : c9 = [.int .i64 x.x.a] := h9
 have e10 : c10 = [.int .i64 x.x.b] := h10
 subst e1; subst e3; subst e5; subst e7; subst e9; subst e10
 rfl
theorem kTh_mkM (w : World) (base : Nat) (ok : Nat → Prop) (x : Th Wx) : kTh.M w base ok x (cells6 x) := ⟨[.int .i64 x.r], _, rfl, rfl, ⟨[.int .i64 x.p], _, rfl, rfl, ⟨[.int .i64 x.t], _, rfl, rfl, ⟨[.int .i64 x.x.f], _, rfl, rfl, ⟨[.int .i64 x.x.a], [.int .i64 x.x.b], rfl, rfl, rfl⟩⟩⟩⟩⟩
theorem kTh_sz : kTh.sz = 6 := rfl
theorem kTh_E : kTh.E = [] := rfl
theorem less_any (a b : Th Wx) (w : World) : Calls Tryz.prog 189 #[.agg #[.int .i64 a.r, .int .i64 a.p, .int .i64 a.t], .agg #[.int .i64 b.r, .int .i64 b.p, .int .i64 b.t]] w fun e w' => e = .returned (.bool (lessT a b)) ∧ Below w.heap.size w w' := by
 obtain ⟨ar, ap, at_, ax⟩ := a
 obtain ⟨br, bp, bt, bx⟩ := b
 by_cases h1 : ar = br
 ·subst h1
  by_cases h2 : ap = bp
  ·subst h2
   have e : lessT (⟨ar, ap, at_, ax⟩ : Th Wx) ⟨ar, ap, bt, bx⟩ = decide (at_ < bt) := by unfold lessT; simp
   rw [e]
   have e1 : (ar != ar) = false := by simp
   have e2 : (ap != ap) = false := by simp
   clear e
   go_enter Tryz.func189, Tryz.ntmps189
   go_wp2
   go_ret
   exact ⟨rfl, below_alloc (below_alloc (Below.refl _ _) _) _⟩
  ·have e : lessT (⟨ar, ap, at_, ax⟩ : Th Wx) ⟨ar, bp, bt, bx⟩ = decide (ap < bp) := by unfold lessT; simp [h2]
   rw [e]
   have e1 : (ar != ar) = false := by simp
   have e2 : (ap != bp) = true := by simpa using h2
   clear e h2
   go_enter Tryz.func189, Tryz.ntmps189
   go_wp2
   go_ret
   exact ⟨rfl, below_alloc (below_alloc (Below.refl _ _) _) _⟩
 ·have e : lessT (⟨ar, ap, at_, ax⟩ : Th Wx) ⟨br, bp, bt, bx⟩ = decide (ar < br) := by unfold lessT; simp [h1]
  rw [e]
  have e1 : (ar != br) = true := by simpa using h1
  clear e h1
  go_enter Tryz.func189, Tryz.ntmps189
  go_wp2
  go_ret
  exact ⟨rfl, below_alloc (below_alloc (Below.refl _ _) _) _⟩
end Go.Proofs.YtkffhgiiejbnaaaGreat.Hq
namespace Go.Proofs.YtkffhgiiejbnaaaGreat.Hq
open Go.RowKit YtkffhgiiejbnaaaGreatW.PrintWords YtkffhgiiejbnaaaGreatW.PrintLast YtkffhgiiejbnaaaGreatW.PrintMore Aid Mp Hp
theorem cell_of {w : World} {p t i : Nat} {cs : Array Value} {v : Value} (h : w.heap[p]? = some (.cells cs t (0, 0))) (hv : cs[i]? = some v) : w.cell? ⟨p, i, none⟩ = some v := by simp only [World.cell?, h]; exact hv
structure HpAt (W : World) (base h : Nat) (v : Value) (n : Int) (l : List (Th Wx)) : Prop where
 le : base ≤ h
 blk : W.heap[h]? = some (.cells #[v, .int .i64 n] 288 (0, 0))
 rows : Kd.R kTh 294 W base (fun _ => True) v l
structure HK (h : Nat) (w w' : World) : Prop where
 size : w.heap.size ≤ w'.heap.size
 block : ∀ k, k < w.heap.size → k ≠ h → (∀ cs, w.heap[k]? ≠ some (.cells cs 294 (0, 0))) → w'.heap[k]? = w.heap[k]?
theorem HK.refl (h : Nat) (w : World) : HK h w w := ⟨Nat.le_refl _, fun _ _ _ _ => rfl⟩
theorem HK.trans {h : Nat} {a b c : World} (x : HK h a b) (y : HK h b c) : HK h a c :=
 ⟨Nat.le_trans x.size y.size, fun k hk hne ht => (y.block k (Nat.lt_of_lt_of_le hk x.size) hne (fun cs e => ht cs (by rw [← x.block k hk hne ht]; exact e))).trans (x.block k hk hne ht)⟩
theorem HK.of_below {h : Nat} {a b : World} (x : Below a.heap.size a b) : HK h a b := ⟨x.size, fun k hk _ _ => x.block k hk⟩
theorem HK.set {h : Nat} (w : World) (j : Nat) (u : Value) : HK h w (w.setCell ⟨h, j, none⟩ u) := ⟨by simp [World.setCell], fun k _ hne _ => Below.heap_setCell w ⟨h, j, none⟩ u k hne⟩
theorem HpAt.below {W W' : World} {base h : Nat} {v : Value} {n : Int} {l : List (Th Wx)} (H : HpAt W base h v n l) (hb : Below W.heap.size W W') : HpAt W' base h v n l :=
 ⟨H.le, (hb.block _ (blk_lt H.blk)).trans H.blk, Kd.R_below H.rows hb⟩
theorem HpAt.lt {W : World} {base h : Nat} {v : Value} {n : Int} {l : List (Th Wx)} (H : HpAt W base h v n l) : h < W.heap.size := blk_lt H.blk
theorem HpAt.form {W : World} {base h : Nat} {v : Value} {n : Int} {l : List (Th Wx)} (H : HpAt W base h v n l) (hl : 0 < l.length) : ∃ g cap, v = .slice (some ⟨g, 0, none⟩) l.length cap ∧ base ≤ g ∧ g < W.heap.size ∧ g ≠ h ∧ l.length ≤ cap ∧ ∃ cells, W.heap[g]? = some (.cells cells 294 (0, 0)) := by
 obtain ⟨g, cap, e, h1, h2, cells, h3⟩ := Kd.R_form H.rows hl
 refine ⟨g, cap, e, h1, h2, fun e2 => ?_, ?_, cells, h3⟩
 ·subst e2; rw [H.blk] at h3; injection h3 with h3; injection h3 with _ h3; exact absurd h3 (by decide)
 ·have := H.rows; rw [e] at this; exact (Kd.R_reads' this).2.1
theorem HpAt.elem {W : World} {base h g cap : Nat} {n : Int} {l : List (Th Wx)} (H : HpAt W base h (.slice (some ⟨g, 0, none⟩) l.length cap) n l) {i : Nat} {x : Th Wx} (hi : l[i]? = some x) :
  (∀ j u, (cells6 x)[j]? = some u → W.cell? ⟨g, i * 6 + j, none⟩ = some u) ∧ ∀ j, W.frozen? ⟨g, i * 6 + j, none⟩ = false := by
 have hlt : i < l.length := by rcases Nat.lt_or_ge i l.length with h | h; exact h; rw [List.getElem?_eq_none h] at hi; cases hi
 obtain ⟨c, h1, h2, h3, h4⟩ := Kd.R_elem H.rows x (i : Int) (by omega) (by omega)
 rw [Int.toNat_natCast, List.getD_eq_getElem?_getD, hi] at h2
 have hc := kTh_open (kTh.K_of_M h2)
 subst hc
 simp only [Int.toNat_natCast, kTh_sz] at h3 h4
 exact ⟨h3, h4⟩
theorem HpAt.put {W : World} {base h g cap : Nat} {n : Int} {l : List (Th Wx)} (H : HpAt W base h (.slice (some ⟨g, 0, none⟩) l.length cap) n l) {i : Nat} (hi : i < l.length) (x : Th Wx) :
  HpAt (W.setCells g (i * 6) (cells6 x)) base h (.slice (some ⟨g, 0, none⟩) (l.set i x).length cap) n (l.set i x) ∧ Below base W (W.setCells g (i * 6) (cells6 x)) ∧ HK h W (W.setCells g (i * 6) (cells6 x)) ∧ (W.setCells g (i * 6) (cells6 x)).heap.size = W.heap.size := by
 obtain ⟨g', cap', e, hb, hlt, hne, _, cells, hg⟩ := H.form (by omega)
 injection e with e _ e3
 injection e with e
 injection e with e
 subst e; subst e3
 obtain ⟨q1, q2⟩ := H.elem (List.getElem?_eq_getElem hi)
 obtain ⟨r1, r2⟩ := Kd.R_seg (okp := fun _ => False) (c := cells6 l[i]) (seg := cells6 x) (j := 0) (x' := x) H.rows (i : Int) (by omega) (by omega) rfl (fun j u hu => by rw [Int.toNat_natCast]; exact q1 j u hu) (by show 0 + 6 ≤ 6; decide) (kTh_mkM W base _ x) (fun _ h => h.elim)
 rw [Int.toNat_natCast] at r1 r2
 simp only [kTh_sz, Nat.add_zero] at r1 r2
 have hs : (W.setCells g (i * 6) (cells6 x)).heap.size = W.heap.size := (setCells_same g (cells6 x) (i * 6) W).2.2.2
 refine ⟨⟨H.le, by rw [List.length_set]; exact (r2.block _ H.lt (fun e => by injection e with e; exact hne e.symm)).trans H.blk, by rw [List.length_set]; exact r1⟩, ⟨r2.os, r2.tape, r2.output, r2.size, fun k hk => ?_⟩, ⟨r2.size, fun k hk _ ht => r2.block k hk (fun e => by injection e with e; subst e; exact ht _ hg)⟩, hs⟩
 by_cases hk2 : k < W.heap.size
 ·exact r2.block k hk2 (fun e => by injection e with e; omega)
 ·rw [Array.getElem?_eq_none (by omega), Array.getElem?_eq_none (by omega)]
theorem info_th : (Tryz.prog.info? 294).map (·.size) = some 6 := by kernel_rfl
theorem HpAt.store {W : World} {base h g cap : Nat} {n : Int} {l : List (Th Wx)} (H : HpAt W base h (.slice (some ⟨g, 0, none⟩) l.length cap) n l) {i : Nat} (hi : i < l.length) (x : Th Wx) :
  (Instr.storeAt 294 (.pointer (some ⟨g, i * 6, none⟩)) (.agg #[.int .i64 x.r, .int .i64 x.p, .int .i64 x.t, .int .i64 x.x.f, .int .i64 x.x.a, .int .i64 x.x.b])).run Tryz.prog W = .ok () (W.setCells g (i * 6) (cells6 x)) := by
 obtain ⟨_, inner, hown, hr⟩ := H.rows
 rcases hown.2 with ⟨hv, _⟩ | ⟨g', cap', cur, hv, hb, hh, hnc, hcm, hcs, _⟩
 ·cases hv
 injection hv with ha _ hc
 injection ha with ha
 injection ha with hg'
 subst hg'; subst hc
 refine run_store_run _ _ (cells6 x) hh rfl info_th ?_ (fun q hq => ?_)
 ·have h2 : i * 6 + 6 ≤ l.length * 6 := by omega
  have h3 : l.length * 6 ≤ cap * 6 := Nat.mul_le_mul_right _ hnc
  have h4 : cur.size = cap * 6 := hcs
  show i * 6 + 6 ≤ _
  omega
 ·simp only [cells6, List.mem_cons, List.mem_nil_iff, or_false] at hq
  rcases hq with rfl | rfl | rfl | rfl | rfl | rfl <;> rfl
end Go.Proofs.YtkffhgiiejbnaaaGreat.Hq
namespace Go.Proofs.YtkffhgiiejbnaaaGreat.Hq
open Go.RowKit YtkffhgiiejbnaaaGreatW.PrintWords YtkffhgiiejbnaaaGreatW.PrintLast YtkffhgiiejbnaaaGreatW.PrintMore Aid Mp Hp
theorem swap_eq {l : List (Th Wx)} {i k : Nat} {x y : Th Wx} (hi : l[i]? = some x) (hk : l[k]? = some y) : (l.set i y).set k x = swapL l i k := by
 have h1 : i < l.length := by rcases Nat.lt_or_ge i l.length with h | h; exact h; rw [List.getElem?_eq_none h] at hi; cases hi
 have h2 : k < l.length := by rcases Nat.lt_or_ge k l.length with h | h; exact h; rw [List.getElem?_eq_none h] at hk; cases hk
 rw [List.getElem?_eq_getElem h1] at hi
 rw [List.getElem?_eq_getElem h2] at hk
 injection hi with hi
 injection hk with hk
 unfold swapL
 rw [dif_pos ⟨h1, h2⟩, hi, hk]
theorem swap_any {w : World} {base h : Nat} {v : Value} {n : Int} {l : List (Th Wx)} (H : HpAt w base h v n l) (i k : Nat) (hi : i < l.length) (hk : k < l.length) :
  Calls Tryz.prog 185 #[.pointer (some ⟨h, 0, none⟩), .int .i64 (i : Int), .int .i64 (k : Int)] w fun e w' => e = .returned (.tuple #[]) ∧ HpAt w' base h v n (swapL l i k) ∧ Below base w w' ∧ HK h w w' := by
 obtain ⟨g, cap, rfl, hb, hlt, hne, hcap, cells, hg⟩ := H.form (by omega)
 obtain ⟨x, hx⟩ : ∃ x, l[i]? = some x := ⟨_, List.getElem?_eq_getElem hi⟩
 obtain ⟨y, hy⟩ : ∃ y, l[k]? = some y := ⟨_, List.getElem?_eq_getElem hk⟩
 have HSE := As.mk (swap_eq hx hy)
 have HX := As.mk hx
 have HY := As.mk hy
 have HH := As.mk H
 have hiI : (i : Int) < (l.length : Int) := by omega
 have hkI : (k : Int) < (l.length : Int) := by omega
 have hi0 : (0 : Int) ≤ (i : Int) := by omega
 have hk0 : (0 : Int) ≤ (k : Int) := by omega
 have HLEN := As.mk (And.intro hi hk)
 clear hx hy H hg hi hk
 go_enter Tryz.func185, Tryz.ntmps185
 go_wp2
 have c0 := cell_of (i := 0) HH.out.blk rfl
 have a0 := (HH.out.elem HX.out).1 0 _ rfl
 have a1 := (HH.out.elem HX.out).1 1 _ rfl
 have a2 := (HH.out.elem HX.out).1 2 _ rfl
 have a3 := (HH.out.elem HX.out).1 3 _ rfl
 have a4 := (HH.out.elem HX.out).1 4 _ rfl
 have a5 := (HH.out.elem HX.out).1 5 _ rfl
 have b0 := (HH.out.elem HY.out).1 0 _ rfl
 have b1 := (HH.out.elem HY.out).1 1 _ rfl
 have b2 := (HH.out.elem HY.out).1 2 _ rfl
 have b3 := (HH.out.elem HY.out).1 3 _ rfl
 have b4 := (HH.out.elem HY.out).1 4 _ rfl
 have b5 := (HH.out.elem HY.out).1 5 _ rfl
 simp only [Nat.add_zero] at a0 b0
 refine start_ (n := 28) (S := fun w' => w'.cell? ⟨h, 0, none⟩ = some (.slice (some ⟨g, 0, none⟩) l.length cap) ∧ w'.cell? ⟨g, i * 6, none⟩ = some (.int .i64 x.r) ∧ w'.cell? ⟨g, i * 6 + 1, none⟩ = some (.int .i64 x.p) ∧ w'.cell? ⟨g, i * 6 + 2, none⟩ = some (.int .i64 x.t) ∧ w'.cell? ⟨g, i * 6 + 3, none⟩ = some (.int .i64 x.x.f) ∧ w'.cell? ⟨g, i * 6 + 4, none⟩ = some (.int .i64 x.x.a) ∧ w'.cell? ⟨g, i * 6 + 5, none⟩ = some (.int .i64 x.x.b) ∧ w'.cell? ⟨g, k * 6, none⟩ = some (.int .i64 y.r) ∧ w'.cell? ⟨g, k * 6 + 1, none⟩ = some (.int .i64 y.p) ∧ w'.cell? ⟨g, k * 6 + 2, none⟩ = some (.int .i64 y.t) ∧ w'.cell? ⟨g, k * 6 + 3, none⟩ = some (.int .i64 y.x.f) ∧ w'.cell? ⟨g, k * 6 + 4, none⟩ = some (.int .i64 y.x.a) ∧ w'.cell? ⟨g, k * 6 + 5, none⟩ = some (.int .i64 y.x.b)) (ds := [25, 27]) #[false, false, false, false, false, false, false, false, false, false, false, false, false, false, false, false, false, false, false, false, false, false, false, false, false, false, false, false] (by kernel_rfl) rfl rfl (⟨c0, a0, a1, a2, a3, a4, a5, b0, b1, b2, b3, b4, b5⟩) (fun hHeld => ?_)
 have HH3 := As.mk (HH.out.below (below_drew1 (Below.refl _ _))); have HB3 := As.mk (below_drew1 (Below.refl base w)); have HK3 := As.mk (HK.of_below (h := h) (below_drew1 (Below.refl w.heap.size w))); clear HH c0 a0 a1 a2 a3 a4 a5 b0 b1 b2 b3 b4 b5; generalize w.drew = w3 at HH3 HB3 HK3 hHeld ⊢
 refine pI 0 (some 6) (bs 28 1) ?_
 refine pI 1 (some 7) (bs 28 3) ?_
 refine pI 2 (some 8) (bs 28 7) ?_
 refine pI 4 (some 10) (bs 28 23) ?_
 refine pI 5 (some 11) (bs 28 55) ?_
 refine pI 6 (some 12) (bs 28 119) ?_
 refine pI 7 (some 13) (bs 28 247) ?_
 refine pI 9 (some 15) (bs 28 759) ?_
 refine pI 10 (some 16) (bs 28 1783) ?_
 refine pI 11 (some 17) (bs 28 3831) ?_
 refine pI 12 (some 18) (bs 28 7927) ?_
 refine pI 14 (some 20) (bs 28 24311) ?_
 refine pI 17 (some 23) (bs 28 155383) ?_
 refine pI 18 (some 24) (bs 28 417527) ?_
 refine pI 19 (some 25) (bs 28 941815) ?_
 refine pI 21 (some 27) (bs 28 3038967) ?_
 refine tI 3 (some 9) (bs 28 3038975) rfl (by intro w' hS'; obtain ⟨s0, s1, s2, s3, s4, s5, s6, s7, s8, s9, s10, s11, s12⟩ := hS'; go_simp; with_reducible rfl) hHeld ?_
 refine tI 8 (some 14) (bs 28 3039231) rfl (by intro w' hS'; obtain ⟨s0, s1, s2, s3, s4, s5, s6, s7, s8, s9, s10, s11, s12⟩ := hS'; go_simp; with_reducible rfl) hHeld ?_
 refine tI 13 (some 19) (bs 28 3047423) rfl (by intro w' hS'; obtain ⟨s0, s1, s2, s3, s4, s5, s6, s7, s8, s9, s10, s11, s12⟩ := hS'; go_simp; with_reducible rfl) hHeld ?_
 refine pI 15 (some 21) (bs 28 3080191) ?_
 refine tI 16 (some 22) (bs 28 3145727) rfl (by intro w' hS'; obtain ⟨s0, s1, s2, s3, s4, s5, s6, s7, s8, s9, s10, s11, s12⟩ := hS'; go_simp; with_reducible rfl) hHeld ?_
 refine tI 20 (some 26) (bs 28 4194303) rfl (by intro w' hS'; obtain ⟨s0, s1, s2, s3, s4, s5, s6, s7, s8, s9, s10, s11, s12⟩ := hS'; go_simp; with_reducible rfl) hHeld ?_
 refine pI 22 (some 28) (bs 28 8388607) ?_
 refine tI 23 (some 29) (bs 28 16777215) rfl (by intro w' hS'; obtain ⟨s0, s1, s2, s3, s4, s5, s6, s7, s8, s9, s10, s11, s12⟩ := hS'; go_simp; with_reducible rfl) hHeld ?_
 refine pI 24 (some 30) (bs 28 33554431) ?_
 refine last_ (i := 25) (N := none) (bs 28 67108863) rfl rfl (by kernel_rfl) (by decide) (fun K hK => ?_)
 clear hHeld
 have hst := HH3.out.store HLEN.out.1 y
 obtain ⟨hp1, hp2, hp3, hp4⟩ := HH3.out.put HLEN.out.1 y
 have HH4 := As.mk hp1
 have HB4 := As.mk (HB3.out.trans hp2)
 have HK4 := As.mk (HK3.out.trans hp3)
 clear hp1 hp2 hp3 hp4 HH3 HB3 HK3
 generalize w3.setCells g (i * 6) (cells6 y) = w4 at *
 refine skip_ (w1 := w4) (by rfl) rfl (exec_store rfl (by rfl) (by rfl) hst) ?_
 refine hK.out _ _ ?_
 clear hK K
 refine pI 26 (some 31) (bs 28 134217727) ?_
 refine last_ (i := 27) (N := none) (bs 28 268435455) rfl rfl (by kernel_rfl) (by decide) (fun K hK => ?_)
 clear hst
 have hst := HH4.out.store (by rw [List.length_set]; exact HLEN.out.2) x
 obtain ⟨hp1, hp2, hp3, hp4⟩ := HH4.out.put (by rw [List.length_set]; exact HLEN.out.2) x
 have HH5 := As.mk hp1
 have HB5 := As.mk (HB4.out.trans hp2)
 have HK5 := As.mk (HK4.out.trans hp3)
 clear hp1 hp2 hp3 hp4 HH4 HB4 HK4
 generalize w4.setCells g (k * 6) (cells6 x) = w5 at *
 refine skip_ (w1 := w5) (by rfl) rfl (exec_store rfl (by rfl) (by rfl) hst) ?_
 refine hK.out _ _ ?_
 clear hK K
 refine done_ (by kernel_rfl) ?_
 go_wp2
 go_end0
 refine ⟨rfl, ?_, HB5.out, HK5.out⟩
 have h5 := HH5.out
 rw [HSE.out, swap_len] at h5
 exact h5
end Go.Proofs.YtkffhgiiejbnaaaGreat.Hq
