/- The table of tokens: one more of them; no condition but that it is a table. -/
import Derived.Test.YtkffhgiiejbnaaaGreatTokA
namespace Go.Proofs.YtkffhgiiejbnaaaGreat.Tk
open Go.RowKit Go.Proofs.YtkffhgiiejbnaaaGreatW.PrintWords Go.Proofs.YtkffhgiiejbnaaaGreatW.PrintLast Go.Proofs.YtkffhgiiejbnaaaGreatW.PrintMore Go.Proofs.YtkffhgiiejbnaaaGreat.Rf Go.Proofs.YtkffhgiiejbnaaaGreat.Aid Go.Proofs.YtkffhgiiejbnaaaGreat.Mp Go.Proofs.YtkffhgiiejbnaaaGreat.Hp
attribute [local go_sem] Aid.max_two Aid.min_two min2_mn max2_mx
set_option linter.unusedVariables false
set_option linter.unusedSimpArgs false
set_option maxHeartbeats 400000

/-- The table's own parts: its row, its maps, the most bytes. -/
structure TabRaw (w : World) (base p : Nat) (v : Value) (bm pm : Nat) (lg : Int) (R I P : List Ent) : Prop where
  lp : base ≤ p
  lb : base ≤ bm
  lm : base ≤ pm
  ne : bm ≠ pm
  blk : w.heap[p]? = some (.cells #[v, .map (some bm), .map (some pm), .int .i64 lg] 227 (0, 0))
  rows : Kd.R kEnt 223 w base (fun _ => True) v R
  bytes : MapIs encStr w bm (bytl I)
  pairs : Ms.MapIs w pm (pairl P)
theorem TabRaw.below {w w' : World} {base p bm pm : Nat} {v : Value} {lg : Int} {R I P : List Ent} (h : TabRaw w base p v bm pm lg R I P) (hb : Below w.heap.size w w') : TabRaw w' base p v bm pm lg R I P :=
  ⟨h.lp, h.lb, h.lm, h.ne, (hb.block _ (blk_lt h.blk)).trans h.blk, Kd.R_below h.rows hb, h.bytes.of_block (hb.block _ h.bytes.lt), h.pairs.of_block (hb.block _ h.pairs.lt)⟩
theorem TabRaw.npb {w : World} {base p bm pm : Nat} {v : Value} {lg : Int} {R I P : List Ent} (h : TabRaw w base p v bm pm lg R I P) : p ≠ bm := fun e => by
  obtain ⟨es, cl, he, _⟩ := h.bytes
  rw [← e, h.blk] at he; cases he
theorem TabRaw.npm {w : World} {base p bm pm : Nat} {v : Value} {lg : Int} {R I P : List Ent} (h : TabRaw w base p v bm pm lg R I P) : p ≠ pm := fun e => by
  obtain ⟨es, cl, he, _⟩ := h.pairs
  rw [← e, h.blk] at he; cases he
theorem TabRaw.putB {w w' : World} {base p bm pm : Nat} {v : Value} {lg : Int} {R I I' P : List Ent} (h : TabRaw w base p v bm pm lg R I P) (hb : But bm w w') (hm : MapIs encStr w' bm (bytl I')) : TabRaw w' base p v bm pm lg R I' P := by
  obtain ⟨es, cl, he, _⟩ := h.bytes
  exact ⟨h.lp, h.lb, h.lm, h.ne, (hb.block _ h.npb).trans h.blk, R_but h.rows hb he, hm, h.pairs.of_block (hb.block _ (Ne.symm h.ne))⟩
theorem TabRaw.putP {w w' : World} {base p bm pm : Nat} {v : Value} {lg : Int} {R I P P' : List Ent} (h : TabRaw w base p v bm pm lg R I P) (hb : But pm w w') (hm : Ms.MapIs w' pm (pairl P')) : TabRaw w' base p v bm pm lg R I P' := by
  obtain ⟨es, cl, he, _⟩ := h.pairs
  exact ⟨h.lp, h.lb, h.lm, h.ne, (hb.block _ h.npm).trans h.blk, R_but h.rows hb he, h.bytes.of_block (hb.block _ h.ne), hm⟩
/-- The row has grown, its value is stored. -/
theorem TabRaw.told {w w' : World} {base p bm pm : Nat} {v v1 : Value} {lg : Int} {R R' I P : List Ent} (h : TabRaw w base p v bm pm lg R I P) (hg : w.grownBy w' v.ownBlock) (hr : Kd.R kEnt 223 w' base (fun _ => True) v1 R') : TabRaw (w'.setCell ⟨p, 0, none⟩ v1) base p v1 bm pm lg R' I P := by
  have hp := blk_grown h.blk hg (Kd.R_ne h.rows h.blk (by decide))
  have hnb : some bm ≠ v.ownBlock := fun he => by
    obtain ⟨cells, hc⟩ := Kd.R_typed h.rows bm he.symm
    obtain ⟨es, cl, hm, _⟩ := h.bytes
    rw [hm] at hc; cases hc
  have hnp : some pm ≠ v.ownBlock := fun he => by
    obtain ⟨cells, hc⟩ := Kd.R_typed h.rows pm he.symm
    obtain ⟨es, cl, hm, _⟩ := h.pairs
    rw [hm] at hc; cases hc
  exact ⟨h.lp, h.lb, h.lm, h.ne, blk_set hp 0 v1, Kd.R_set hr hp (by decide) 0 v1, (h.bytes.of_block (hg.block _ h.bytes.lt hnb)).of_block (Below.heap_setCell w' ⟨p, 0, none⟩ v1 bm (Ne.symm h.npb)), (h.pairs.of_block (hg.block _ h.pairs.lt hnp)).of_block (Below.heap_setCell w' ⟨p, 0, none⟩ v1 pm (Ne.symm h.npm))⟩
theorem TabRaw.long {w : World} {base p bm pm : Nat} {v : Value} {lg : Int} {R I P : List Ent} (h : TabRaw w base p v bm pm lg R I P) (lg' : Int) : TabRaw (w.setCell ⟨p, 3, none⟩ (.int .i64 lg')) base p v bm pm lg' R I P :=
  ⟨h.lp, h.lb, h.lm, h.ne, blk_set h.blk 3 (.int .i64 lg'), Kd.R_set h.rows h.blk (by decide) 3 _, h.bytes.of_block (Below.heap_setCell w ⟨p, 3, none⟩ _ bm (Ne.symm h.npb)), h.pairs.of_block (Below.heap_setCell w ⟨p, 3, none⟩ _ pm (Ne.symm h.npm))⟩
theorem TabRaw.c0 {w : World} {base p bm pm : Nat} {v : Value} {lg : Int} {R I P : List Ent} (h : TabRaw w base p v bm pm lg R I P) : w.cell? ⟨p, 0, none⟩ = some v := by simp only [World.cell?, h.blk]; rfl
theorem TabRaw.c1 {w : World} {base p bm pm : Nat} {v : Value} {lg : Int} {R I P : List Ent} (h : TabRaw w base p v bm pm lg R I P) : w.cell? ⟨p, 1, none⟩ = some (.map (some bm)) := by simp only [World.cell?, h.blk]; rfl
theorem TabRaw.c2 {w : World} {base p bm pm : Nat} {v : Value} {lg : Int} {R I P : List Ent} (h : TabRaw w base p v bm pm lg R I P) : w.cell? ⟨p, 2, none⟩ = some (.map (some pm)) := by simp only [World.cell?, h.blk]; rfl
theorem TabRaw.c3 {w : World} {base p bm pm : Nat} {v : Value} {lg : Int} {R I P : List Ent} (h : TabRaw w base p v bm pm lg R I P) : w.cell? ⟨p, 3, none⟩ = some (.int .i64 lg) := by simp only [World.cell?, h.blk]; rfl

/-- the bytes, so many -/
def byteE (i : Nat) : Ent := ⟨⟨#[UInt8.ofNat i]⟩, -1, -1⟩
def byteL (n : Nat) : List Ent := (List.range n).map byteE
theorem byteL_len (n : Nat) : (byteL n).length = n := by simp [byteL]
theorem byteL_succ (n : Nat) : byteL (n + 1) = byteL n ++ [byteE n] := by simp [byteL, List.range_succ]
theorem byteE_inj {i j : Nat} (hi : i < 256) (hj : j < 256) (h : (byteE i).f0 = (byteE j).f0) : i = j := by
  simp [byteE] at h
  have := congrArg UInt8.toNat h
  simp at this
  omega
theorem idxB_byteL (n : Nat) (hn : n < 256) : idxB (byteL n) (byteE n).f0 = none := by
  unfold idxB
  rw [List.findIdx?_eq_none_iff]
  intro x hx
  unfold byteL at hx
  obtain ⟨i, hi, rfl⟩ := List.mem_map.1 hx
  have := List.mem_range.1 hi
  simp only [decide_eq_true_eq, Bool.not_eq_true, decide_eq_false_iff_not]
  intro e
  have := byteE_inj (by omega) hn e
  omega
theorem bytl_snoc (E : List Ent) (x : Ent) : bytl (E ++ [x]) = bytl E ++ [(x.f0, .int .i64 (E.length : Int))] := by simp [bytl, List.zipIdx_append]
theorem put_bytl (E : List Ent) (x : Ent) (h : idxB E x.f0 = none) : put (bytl E) x.f0 (.int .i64 (E.length : Int)) = bytl (E ++ [x]) := by
  rw [put_new (by rw [get_bytl, h]; rfl), bytl_snoc]
theorem begin0 (w : World) : TabRaw (((w.alloc (.map #[] 0)).alloc (.map #[] 0)).alloc (.cells #[.slice none 0 0, .map (some w.heap.size), .map (some (w.heap.size + 1)), .int .i64 1] 227)) w.heap.size (w.heap.size + 2) (.slice none 0 0) w.heap.size (w.heap.size + 1) 1 [] [] [] := by
  obtain ⟨h0, h1, h2⟩ := push3 w.heap (.map #[] 0) (.map #[] 0) (.cells #[.slice none 0 0, .map (some w.heap.size), .map (some (w.heap.size + 1)), .int .i64 1] 227 (0, 0))
  exact ⟨by omega, by omega, by omega, by omega, h2, Kd.R_nil _ _ _ _ _, ⟨#[], 0, h0, MapKept.stamped_empty 0, rfl⟩, ⟨#[], 0, h1, MapKept.stamped_empty 0, rfl⟩⟩
end Go.Proofs.YtkffhgiiejbnaaaGreat.Tk
namespace Go.Proofs.YtkffhgiiejbnaaaGreat.Tk
open Go.RowKit Go.Proofs.YtkffhgiiejbnaaaGreatW.PrintWords Go.Proofs.YtkffhgiiejbnaaaGreat.Rf Go.Proofs.YtkffhgiiejbnaaaGreat.Aid Go.Proofs.YtkffhgiiejbnaaaGreat.Mp Go.Proofs.YtkffhgiiejbnaaaGreat.Hp
set_option linter.unusedVariables false
set_option linter.unusedSimpArgs false

/-- a token's bytes -/
def byt (E : List Ent) (a : Int) : ByteArray := (E[a.toNat]?.map (·.f0)).getD ⟨#[]⟩
def hasE (E : List Ent) (a : Int) : Bool := decide (0 ≤ a ∧ a < (E.length : Int))
/-- what two parents make -/
def sumB (E : List Ent) (a b : Int) : ByteArray := byt E a ++ byt E b
/-- whether a token may be added: the error's number -/
def addC (E : List Ent) (a b : Int) : Int :=
  if hasE E a = true ∧ hasE E b = true then (if 64 < (sumB E a b).size then 3 else if 1000 ≤ E.length then 5 else if (idxB E (sumB E a b)).isSome then 10 else 0) else 4
def newE (E : List Ent) (a b : Int) : Ent := ⟨sumB E a b, a, b⟩
/-- What holds of a table. -/
structure Good (E : List Ent) : Prop where
  many : 256 ≤ E.length ∧ E.length ≤ 1000
  small : ∀ x ∈ E, 1 ≤ x.f0.size ∧ x.f0.size ≤ 64
  par : ∀ (i : Nat) (h : i < E.length), 256 ≤ i → 0 ≤ (E[i]).f1 ∧ (E[i]).f1 < (i : Int) ∧ 0 ≤ (E[i]).f2 ∧ (E[i]).f2 < (i : Int) ∧ (E[i]).f0 = sumB E (E[i]).f1 (E[i]).f2
  nodup : (E.map (·.f0)).Nodup
  first : E.take 256 = byteL 256
theorem byt_app {E : List Ent} {a : Int} (x : Ent) (h0 : 0 ≤ a) (h1 : a < (E.length : Int)) : byt (E ++ [x]) a = byt E a := by
  unfold byt; rw [List.getElem?_append_left (by omega)]
theorem byt_at {E : List Ent} {i : Nat} (h : i < E.length) : byt E (i : Int) = (E[i]).f0 := by
  unfold byt; rw [Int.toNat_natCast, List.getElem?_eq_getElem h]; rfl
theorem idxB_none {E : List Ent} {s : ByteArray} (h : idxB E s = none) : ∀ x ∈ E, x.f0 ≠ s := by
  unfold idxB at h
  rw [List.findIdx?_eq_none_iff] at h
  intro x hx e
  have := h x hx
  simp [e] at this
theorem idxB_some {E : List Ent} {s : ByteArray} {i : Nat} (h : idxB E s = some i) : ∃ h : i < E.length, (E[i]).f0 = s := by
  unfold idxB at h
  obtain ⟨h1, h2, _⟩ := List.findIdx?_eq_some_iff_getElem.1 h
  exact ⟨h1, by simpa using h2⟩
theorem addC_ok {E : List Ent} {a b : Int} (h : addC E a b = 0) : (0 ≤ a ∧ a < (E.length : Int)) ∧ (0 ≤ b ∧ b < (E.length : Int)) ∧ (sumB E a b).size ≤ 64 ∧ E.length < 1000 ∧ idxB E (sumB E a b) = none := by
  unfold addC at h
  by_cases h1 : hasE E a = true ∧ hasE E b = true
  · rw [if_pos h1] at h
    have ha : 0 ≤ a ∧ a < (E.length : Int) := of_decide_eq_true h1.1
    have hb : 0 ≤ b ∧ b < (E.length : Int) := of_decide_eq_true h1.2
    by_cases h2 : 64 < (sumB E a b).size
    · rw [if_pos h2] at h; omega
    · rw [if_neg h2] at h
      by_cases h3 : 1000 ≤ E.length
      · rw [if_pos h3] at h; omega
      · rw [if_neg h3] at h
        cases h4 : idxB E (sumB E a b) with
        | none => exact ⟨ha, hb, by omega, by omega, rfl⟩
        | some i => rw [h4] at h; simp at h
  · rw [if_neg h1] at h; omega
theorem sumB_size (E : List Ent) (a b : Int) : (sumB E a b).size = (byt E a).size + (byt E b).size := by unfold sumB; exact ByteArray.size_append
theorem Good.begin_ : Good (byteL 256) := by
  refine ⟨by rw [byteL_len]; omega, fun x hx => ?_, fun i h hi => ?_, ?_, ?_⟩
  · obtain ⟨i, _, rfl⟩ := List.mem_map.1 hx
    exact ⟨Nat.le_refl 1, (by decide : 1 ≤ 64)⟩
  · rw [byteL_len] at h; omega
  · unfold byteL
    rw [List.map_map]
    show List.Pairwise _ _
    rw [List.pairwise_map]
    exact List.Pairwise.imp_of_mem (fun {x y} hx hy hne e => hne (byteE_inj (List.mem_range.1 hx) (List.mem_range.1 hy) e)) List.nodup_range
  · have := byteL_len 256; rw [List.take_of_length_le (by omega)]
theorem Good.add {E : List Ent} {a b : Int} (h : Good E) (hc : addC E a b = 0) : Good (E ++ [newE E a b]) := by
  obtain ⟨ha, hb, hs, hl, hi⟩ := addC_ok hc
  have hpos : ∀ c, 0 ≤ c → c < (E.length : Int) → 1 ≤ (byt E c).size := fun c h0 h1 => by
    obtain ⟨n, rfl⟩ := Int.eq_ofNat_of_zero_le h0
    have hn : n < E.length := by omega
    rw [byt_at hn]
    exact (h.small _ (List.getElem_mem hn)).1
  refine ⟨by rw [List.length_append]; have := h.many; simp; omega, fun x hx => ?_, fun i hi' h256 => ?_, ?_, ?_⟩
  · rcases List.mem_append.1 hx with hx | hx
    · exact h.small x hx
    · have : x = newE E a b := by simpa using hx
      subst this
      have h1 := hpos a ha.1 ha.2
      have h2 := sumB_size E a b
      exact ⟨by show 1 ≤ (sumB E a b).size; omega, hs⟩
  · rw [List.length_append] at hi'
    simp only [List.length_cons, List.length_nil] at hi'
    by_cases hlt : i < E.length
    · obtain ⟨p1, p2, p3, p4, p5⟩ := h.par i hlt h256
      rw [List.getElem_append_left hlt]
      refine ⟨p1, p2, p3, p4, ?_⟩
      rw [p5]
      unfold sumB
      rw [byt_app _ p1 (by omega), byt_app _ p3 (by omega)]
    · obtain rfl : i = E.length := by omega
      have e : (E ++ [newE E a b])[E.length]'(by simp) = newE E a b := by simp
      rw [e]
      refine ⟨ha.1, ha.2, hb.1, hb.2, ?_⟩
      show sumB E a b = sumB (E ++ [newE E a b]) a b
      unfold sumB
      rw [byt_app _ ha.1 ha.2, byt_app _ hb.1 hb.2]
  · rw [List.map_append]
    refine List.nodup_append.2 ⟨h.nodup, by simp, ?_⟩
    intro x hx y hy
    simp only [List.map_cons, List.map_nil, List.mem_singleton] at hy
    subst hy
    obtain ⟨z, hz, rfl⟩ := List.mem_map.1 hx
    exact idxB_none hi z hz
  · rw [List.take_append_of_le_length h.many.1]; exact h.first
/-- the token of two parents: what they make -/
theorem pairP_some {E : List Ent} {a b : Int} {i : Nat} (h : pairP E a b = some i) : ∃ h : i < E.length, 256 ≤ i ∧ (E[i]).f1 = a ∧ (E[i]).f2 = b := by
  unfold pairP at h
  rw [Option.map_eq_some_iff] at h
  obtain ⟨j, hj, rfl⟩ := h
  obtain ⟨h1, h2, _⟩ := List.findIdx?_eq_some_iff_getElem.1 hj
  rw [List.length_drop] at h1
  rw [List.getElem_drop] at h2
  simp only [Prod.mk.injEq, decide_eq_true_eq] at h2
  exact ⟨by omega, by omega, h2.1, h2.2⟩
theorem Good.pair_none {E : List Ent} {a b : Int} (h : Good E) (hi : idxB E (sumB E a b) = none) : pairP E a b = none := by
  cases hp : pairP E a b with
  | none => rfl
  | some i =>
    obtain ⟨hl, h256, e1, e2⟩ := pairP_some hp
    obtain ⟨_, _, _, _, p5⟩ := h.par i hl h256
    rw [e1, e2] at p5
    exact absurd p5 (idxB_none hi _ (List.getElem_mem hl))
theorem Good.pair_at {E : List Ent} (h : Good E) {i : Nat} (hl : i < E.length) (h256 : 256 ≤ i) : pairP E (E[i]).f1 (E[i]).f2 = some i := by
  cases hp : pairP E (E[i]).f1 (E[i]).f2 with
  | none =>
    unfold pairP at hp
    rw [Option.map_eq_none_iff, List.findIdx?_eq_none_iff] at hp
    have hm : E[i] ∈ E.drop 256 := by
      rw [List.mem_iff_getElem]
      exact ⟨i - 256, by rw [List.length_drop]; omega, by rw [List.getElem_drop]; have e : 256 + (i - 256) = i := Nat.add_sub_cancel' h256; simp only [e]⟩
    have := hp _ hm
    simp at this
  | some j =>
    obtain ⟨hj, hj256, e1, e2⟩ := pairP_some hp
    obtain ⟨_, _, _, _, p5⟩ := h.par i hl h256
    obtain ⟨_, _, _, _, q5⟩ := h.par j hj hj256
    rw [e1, e2, ← p5] at q5
    have hn := h.nodup
    have h1 : (E.map (·.f0))[j]'(by simpa using hj) = (E.map (·.f0))[i]'(by simpa using hl) := by simpa using q5
    have := (List.getElem_inj hn).1 h1
    rw [this]
/-- a table of merges, as far as it goes: how many, and the error's number of the next one -/
def newT (E : List Ent) : List (Int × Int) → Nat → List Ent × Nat × Int
  | [], n => (E, n, 0)
  | m :: l, n => if addC E m.1 m.2 = 0 then newT (E ++ [newE E m.1 m.2]) l (n + 1) else (E, n, addC E m.1 m.2)
theorem Good.new : ∀ {l : List (Int × Int)} {E : List Ent} {n : Nat}, Good E → Good (newT E l n).1
  | [], E, n, h => h
  | m :: l, E, n, h => by
    unfold newT
    by_cases hc : addC E m.1 m.2 = 0
    · rw [if_pos hc]; exact Good.new (h.add hc)
    · rw [if_neg hc]; exact h
end Go.Proofs.YtkffhgiiejbnaaaGreat.Tk
namespace Go.Proofs.YtkffhgiiejbnaaaGreat.Tk
open Go.RowKit Go.Proofs.YtkffhgiiejbnaaaGreatW.PrintWords Go.Proofs.YtkffhgiiejbnaaaGreatW.PrintLast Go.Proofs.YtkffhgiiejbnaaaGreatW.PrintMore Go.Proofs.YtkffhgiiejbnaaaGreat.Rf Go.Proofs.YtkffhgiiejbnaaaGreat.Aid Go.Proofs.YtkffhgiiejbnaaaGreat.Mp Go.Proofs.YtkffhgiiejbnaaaGreat.Hp
attribute [local go_sem] Aid.max_two Aid.min_two min2_mn max2_mx
set_option linter.unusedVariables false
set_option linter.unusedSimpArgs false
set_option maxHeartbeats 400000

theorem byte_conv (i : Nat) (hi : i < 256) (W : World) : (convert 109 9 (.slice (some ⟨W.heap.size, 0, none⟩) 1 1)).run Tryz.prog (W.alloc (.cells #[.int .u8 (i : Int)] 5)) = .ok (.string (byteE i).f0) (W.alloc (.cells #[.int .u8 (i : Int)] 5)) := by
  have ho : (W.alloc (.cells #[.int .u8 (i : Int)] 5)).ownsRow W.heap.size 5 1 (.slice (some ⟨W.heap.size, 0, none⟩) 1 1) 1 (nums .u8 [(i : Int)]) := own_lit W W.heap.size 5 .u8 [(i : Int)] (Nat.le_refl _) (by simp)
  have := own_string (P := Tryz.prog) (src := 109) (dst := 9) Tryz.underlying109 Tryz.underlying5 Tryz.underlying9 ho
  rw [this]
  congr 2
set_option maxRecDepth 100000 in
theorem begin_any (w : World) : Calls Tryz.prog 171 #[] w fun e w' => e = .returned (.pointer (some ⟨w.heap.size + 2, 0, none⟩)) ∧ (∃ v, TabRaw w' w.heap.size (w.heap.size + 2) v w.heap.size (w.heap.size + 1) 1 (byteL 256) (byteL 256) []) ∧ Below w.heap.size w w' := by
  have hmm := @run_makeMap Tryz.prog
  go_enter Tryz.func171, Tryz.ntmps171
  go_wp2_with fail
  have HO0 := As.mk (begin0 w)
  have HB0 := As.mk (below_alloc (below_alloc (below_alloc (Below.refl w.heap.size w) (.map #[] 0)) (.map #[] 0)) (.cells #[.slice none 0 0, .map (some w.heap.size), .map (some (w.heap.size + 1)), .int .i64 1] 227))
  clear hmm
  simp only [Nat.add_assoc, Nat.reduceAdd] at HO0 HB0 ⊢
  generalize ((w.alloc (.map #[] 0)).alloc (.map #[] 0)).alloc (.cells #[.slice none 0 0, .map (some w.heap.size), .map (some (w.heap.size + 1)), .int .i64 1] 227) = W0 at HO0 HB0 ⊢
  go_loopg [8] 256 (fun k v w' => ∃ (i : Nat) (sv : Value) (W : World), v = .int .i64 i ∧ i ≤ 256 ∧ As (256 - i ≤ k) ∧ As (W = w') ∧ As (TabRaw w' w.heap.size (w.heap.size + 2) sv w.heap.size (w.heap.size + 1) 1 (byteL i) (byteL i) []) ∧ As (Below w.heap.size w w'))
  case atStart => exact ⟨0, .slice none 0 0, W0, rfl, Nat.zero_le _, ⟨by omega⟩, ⟨rfl⟩, HO0, HB0⟩
  case round =>
    clear HO0 HB0
    obtain ⟨i, sv, W, rfl, hi, HK, HW, HO, HB⟩ := hrel
    have hW := HW.out
    subst hW
    clear HW
    by_cases hlt : i < 256
    · obtain ⟨k1, rfl⟩ : ∃ k1, gk = k1 + 1 := ⟨gk - 1, by have := HK.out; omega⟩
      have hltI : (i : Int) < 256 := by omega
      have hbc := byte_conv i hlt
      obtain ⟨A, n, c, rfl⟩ : ∃ A n c, sv = .slice A n c := by obtain ⟨A, c, h⟩ := Kd.R_slice HO.out.rows; exact ⟨A, _, c, h⟩
      have c0 := HO.out.c0
      have c1 := HO.out.c1
      have hlp : w.heap.size + 2 < W.heap.size := blk_lt HO.out.blk
      have HR := As.mk HO.out.rows
      have HOa := As.mk (HO.out.below (below_alloc (Below.refl _ _) (.cells #[.int .u8 (i : Int)] 5)))
      go_wp2_with ((with_reducible refine gate_builtin (b := .append) (xs := #[.tmp 19, .tmp 23]) rfl ?_); at_builtin; refine Kd.R_append kEnt (w0 := w) w.heap.size rfl (.tmp 19) (.tmp 23) 224 223 (.agg #[.string ⟨#[]⟩, .int .i64 0, .int .i64 0]) 32 rfl Tryz.underlying224 info_ent rfl (by decide) (by omega) (.slice A n c) (byteL i) (byteE i) [.string (byteE i).f0, .int .i64 (-1), .int .i64 (-1)] (fun _ => True) (fun _ => False) rfl ?aX ?aP (fun _ hk => hk.elim) ?aF ?aO ?aB ?aS ?aL ?_; (case aX => first | exact rfl | (simp [Act.eval, go_sem]; done)); (case aP => exact kEnt_mkM _ _ _ (byteE i)); (case aF => exact (fun _ _ => trivial)); (case aO => exact (by (with_reducible repeat (first | apply Kd.R_alloc | apply Kd.R_drewN | apply Kd.R_drew)); exact HR.out)); (case aB => exact (by repeat (first | (with_reducible first | exact HB.out | apply below_alloc | apply pw_below_drewN | apply below_drew1) | exact HB.out))); (case aS => exact (below_size (by repeat (first | (with_reducible first | exact HB.out | apply below_alloc | apply pw_below_drewN | apply below_drew1) | exact HB.out)))); (case aL => (rw [byteL_len]; omega)); intro v1 w1 ho hb hg hat; have hk1 := blk_grown HOa.out.blk hg (Kd.R_ne HOa.out.rows HOa.out.blk (by decide)); obtain ⟨A1, n1, c1', rfl⟩ : ∃ A1 n1 c1', v1 = .slice A1 n1 c1' := (by obtain ⟨A1, c1', h⟩ := Kd.R_slice ho; exact ⟨A1, _, c1', h⟩); have z0 : w1.cell? ⟨w.heap.size + 2, 0, none⟩ = some (.slice A n c) := (by simp only [World.cell?, hk1]; rfl); have z1 : w1.cell? ⟨w.heap.size + 2, 1, none⟩ = some (.map (some w.heap.size)) := (by simp only [World.cell?, hk1]; rfl); have y0 := blk_frozen hk1 0; have HT := As.mk (HOa.out.told hg ho); clear hk1 HOa; obtain ⟨w3, hr3, hm3, hb3⟩ := update_run (P := Tryz.prog) (E := encStr) (mty := 189) Tryz.underlying189 Tryz.underlying9 HT.out.bytes (byteE i).f0 (.int .i64 (i : Int)); simp only [encStr] at hr3; have HM3 := As.mk hm3; have HB3 := As.mk hb3; clear hm3 hb3; have HO_ := As.mk ho; have HB_ := As.mk hb; clear HR HB ho hb hg hat; have HR := HO_; have HB := HB_; clear HO_ HB_)
      have HMX := HM3.out
      have hlen : ((byteL i).length : Int) = i := by rw [byteL_len]
      rw [← hlen, put_bytl _ _ (idxB_byteL i hlt), ← byteL_succ] at HMX
      have hT4 := HT.out.putB HB3.out HMX
      go_roundg k1
      case measure => omega
      case rel =>
        rw [← byteL_succ] at hT4
        exact ⟨i + 1, _, _, by go_num, by omega, ⟨by have := HK.out; omega⟩, ⟨rfl⟩, ⟨hT4⟩, ⟨(HB.out.setCell (p := ⟨w.heap.size + 2, 0, none⟩) (by show w.heap.size ≤ w.heap.size + 2; omega) _).trans (HB3.out.below (Nat.le_refl _))⟩⟩
    · obtain rfl : i = 256 := by omega
      go_wp2
      go_ret
      exact ⟨rfl, ⟨_, HO.out⟩, HB.out⟩
end Go.Proofs.YtkffhgiiejbnaaaGreat.Tk
namespace Go.Proofs.YtkffhgiiejbnaaaGreat.Tk
open Go.RowKit Go.Proofs.YtkffhgiiejbnaaaGreatW.PrintWords Go.Proofs.YtkffhgiiejbnaaaGreatW.PrintLast Go.Proofs.YtkffhgiiejbnaaaGreatW.PrintMore Go.Proofs.YtkffhgiiejbnaaaGreat.Rf Go.Proofs.YtkffhgiiejbnaaaGreat.Aid Go.Proofs.YtkffhgiiejbnaaaGreat.Mp Go.Proofs.YtkffhgiiejbnaaaGreat.Hp
attribute [local go_sem] Aid.max_two Aid.min_two min2_mn max2_mx
set_option linter.unusedVariables false
set_option linter.unusedSimpArgs false
set_option maxHeartbeats 400000

/-- A table of one's own. -/
structure TabOwn (w : World) (base p bm pm : Nat) (E : List Ent) : Prop where
  good : Good E
  raw : ∃ A c lg, 0 ≤ lg ∧ lg ≤ 64 ∧ TabRaw w base p (.slice A E.length c) bm pm lg E E (E.drop 256)
theorem TabOwn.below {w w' : World} {base p bm pm : Nat} {E : List Ent} (h : TabOwn w base p bm pm E) (hb : Below w.heap.size w w') : TabOwn w' base p bm pm E := by
  obtain ⟨A, c, lg, h1, h2, h3⟩ := h.raw
  exact ⟨h.good, A, c, lg, h1, h2, h3.below hb⟩
theorem TabOwn.at_ {w : World} {base p bm pm : Nat} {E : List Ent} (h : TabOwn w base p bm pm E) : TabAt w p E := by
  obtain ⟨A, c, lg, h1, h2, h3⟩ := h.raw
  obtain ⟨_, hc, hC⟩ := Kd.R_reads' h3.rows
  exact ⟨h.good.many, h.good.small, ⟨A, c, h3.c0, hc, hC⟩, ⟨bm, h3.c1, h3.bytes⟩, ⟨pm, h3.c2, h3.pairs⟩⟩
theorem pairl_snoc (M : List Ent) (x : Ent) : pairl (M ++ [x]) = pairl M ++ [((x.f1, x.f2), .int .i64 ((256 + M.length : Nat) : Int))] := by simp [pairl, List.zipIdx_append]
/-- a call of has, answered -/
theorem has_is {p : Nat} {E : List Ent} {A : Option Addr} {c : Nat} {w : World} (id : Int) (hl : w.cell? ⟨p, 0, none⟩ = some (.slice A E.length c)) : Calls Tryz.prog 135 #[.pointer (some ⟨p, 0, none⟩), .int .i64 id] w fun e w' => e = .returned (.bool (hasE E id)) ∧ w = w' := has_raw p E.length c A id w hl

set_option maxRecDepth 100000 in
theorem add_has {w : World} {base p bm pm : Nat} {E : List Ent} (h : TabOwn w base p bm pm E) (a b : Int) (hc : ¬ (hasE E a = true ∧ hasE E b = true)) :
    Calls Tryz.prog 170 #[.pointer (some ⟨p, 0, none⟩), .agg #[.int .i64 a, .int .i64 b]] w fun e w' => e = .returned (.tuple #[.int .i64 0, .int .i64 4]) ∧ Below w.heap.size w w' := by
  obtain ⟨A, c, lg, _, _, hr⟩ := h.raw
  have c0 := pw_cell_below (below_alloc (Below.refl w.heap.size w) (.cells #[.int .i64 a, .int .i64 b] 91)) hr.c0
  have HA := As.mk (has_is a c0)
  have HB := As.mk (has_is b c0)
  clear c0 hr h
  cases h1 : hasE E a with
  | false =>
    rw [h1] at HA
    clear h1 hc HB
    go_enter Tryz.func170, Tryz.ntmps170
    go_wp2_with fail
    refine HA.out.mono ?_
    rintro e w' ⟨rfl, rfl⟩
    go_wp2
    go_ret2
    exact ⟨rfl, below_alloc (Below.refl _ _) _⟩
  | true =>
    have h2 : hasE E b = false := by
      cases h2 : hasE E b with
      | false => rfl
      | true => exact absurd ⟨h1, h2⟩ hc
    rw [h1] at HA
    rw [h2] at HB
    clear h1 h2 hc
    go_enter Tryz.func170, Tryz.ntmps170
    go_wp2_with fail
    refine HA.out.mono ?_
    rintro e w' ⟨rfl, rfl⟩
    go_wp2_with fail
    refine HB.out.mono ?_
    rintro e w' ⟨rfl, rfl⟩
    go_wp2
    go_ret2
    exact ⟨rfl, below_alloc (Below.refl _ _) _⟩
set_option maxRecDepth 100000 in
set_option maxHeartbeats 1000000 in
theorem add_all {w : World} {base p bm pm : Nat} {E : List Ent} (h : TabOwn w base p bm pm E) (a b : Int) (ha : 0 ≤ a ∧ a < (E.length : Int)) (hb : 0 ≤ b ∧ b < (E.length : Int)) (hbase : base ≤ w.heap.size) :
    Calls Tryz.prog 170 #[.pointer (some ⟨p, 0, none⟩), .agg #[.int .i64 a, .int .i64 b]] w fun e w' => e = .returned (.tuple #[.int .i64 (if addC E a b = 0 then (E.length : Int) else 0), .int .i64 (addC E a b)]) ∧ TabOwn w' base p bm pm (if addC E a b = 0 then E ++ [newE E a b] else E) ∧ Below base w w' := by
  have hEa : hasE E a = true := decide_eq_true ha
  have hEb : hasE E b = true := decide_eq_true hb
  obtain ⟨A, c, lg, l1, l2, hr⟩ := h.raw
  obtain ⟨x, rfl⟩ := Int.eq_ofNat_of_zero_le ha.1
  obtain ⟨y, rfl⟩ := Int.eq_ofNat_of_zero_le hb.1
  have hx : x < E.length := by omega
  have hy : y < E.length := by omega
  obtain ⟨_, hc, hC⟩ := Kd.R_reads' hr.rows
  obtain ⟨ad, rfl, x0, _, _⟩ := at_ent hC hx
  obtain ⟨ad', e', y0, _, _⟩ := at_ent hC hy
  injection e' with e'
  subst e'
  have hs1 := (h.good.small _ (List.getElem_mem hx)).2
  have hs2 := (h.good.small _ (List.getElem_mem hy)).2
  have hsum : sumB E (x : Int) (y : Int) = (E[x]).f0 ++ (E[y]).f0 := by unfold sumB; rw [byt_at hx, byt_at hy]
  have hcode : addC E (x : Int) (y : Int) = if 64 < (sumB E (x : Int) (y : Int)).size then 3 else if 1000 ≤ E.length then 5 else if (idxB E (sumB E (x : Int) (y : Int))).isSome then 10 else 0 := by unfold addC; rw [if_pos ⟨hEa, hEb⟩]
  obtain ⟨C, hCd⟩ : ∃ C, C = addC E (x : Int) (y : Int) := ⟨_, rfl⟩
  rw [← hCd]
  rw [← hCd] at hcode
  obtain ⟨E', hE'⟩ : ∃ E', E' = if C = 0 then E ++ [newE E (x : Int) (y : Int)] else E := ⟨_, rfl⟩
  obtain ⟨I', hI'⟩ : ∃ I' : Int, I' = if C = 0 then (E.length : Int) else 0 := ⟨_, rfl⟩
  rw [← hE', ← hI']
  have HN := As.mk (And.intro hE' hI')
  clear hE' hI'
  generalize hs : sumB E (x : Int) (y : Int) = s at hsum hcode
  have hsz : s.size = (E[x]).f0.size + (E[y]).f0.size := by rw [hsum]; exact ByteArray.size_append
  have HM := As.mk (And.intro hsum (And.intro hcode (And.intro hCd hs)))
  have HH := As.mk h
  have hB1 := below_alloc (Below.refl w.heap.size w) (.cells #[.int .i64 (x : Int), .int .i64 (y : Int)] 91)
  have HR := As.mk (hr.below hB1)
  have c0 := (hr.below hB1).c0
  have HA := As.mk (has_is (x : Int) c0)
  have HB := As.mk (has_is (y : Int) c0)
  rw [hEa] at HA
  rw [hEb] at HB
  have hh := (Go.MapKept.heap_alloc w (.cells #[.int .i64 (x : Int), .int .i64 (y : Int)] 91)).1
  have m0 : (w.alloc (.cells #[.int .i64 (x : Int), .int .i64 (y : Int)] 91)).cell? ⟨w.heap.size, 0, none⟩ = some (.int .i64 (x : Int)) := by simp only [World.cell?, hh]; rfl
  have m1 : (w.alloc (.cells #[.int .i64 (x : Int), .int .i64 (y : Int)] 91)).cell? ⟨w.heap.size, 1, none⟩ = some (.int .i64 (y : Int)) := by simp only [World.cell?, hh]; rfl
  replace x0 := pw_cell_below hB1 x0
  replace y0 := pw_cell_below hB1 y0
  have HE := As.mk hh
  have HB1 := As.mk hB1
  have hxi : (x : Int) < (E.length : Int) := by omega
  have hyi : (y : Int) < (E.length : Int) := by omega
  clear hr hC h hsum hcode hCd hs hh hB1 ha hb hEa hEb
  generalize (E[x]).f0 = s1 at x0 hs1 hsz HM
  generalize (E[y]).f0 = s2 at y0 hs2 hsz HM
  go_enter Tryz.func170, Tryz.ntmps170
  go_wp2_with fail
  generalize w.alloc (.cells #[.int .i64 (x : Int), .int .i64 (y : Int)] 91) = w1 at HR c0 HA HB m0 m1 x0 y0 HE HB1 ⊢
  refine HA.out.mono ?_
  rintro e w' ⟨rfl, rfl⟩
  go_wp2_with fail
  refine HB.out.mono ?_
  rintro e w' ⟨rfl, rfl⟩
  clear HA HB
  go_wp2
  go_quiet (fail)
  have hb12 := pw_below_drewN (Below.refl w1.heap.size w1) nq
  have HB2 := As.mk (pw_below_drewN HB1.out nq)
  replace HR := As.mk (HR.out.below hb12)
  replace c0 := pw_cell_below hb12 c0
  replace m0 := pw_cell_below hb12 m0
  replace m1 := pw_cell_below hb12 m1
  replace HE := As.mk ((hb12.block _ (blk_lt HE.out)).trans HE.out)
  clear hb12 HB1 x0 y0 hs1 hs2 hsz
  generalize w1.drewN nq = w2 at HR c0 m0 m1 HE HB2 ⊢
  rw [← HM.out.1]
  by_cases h64 : 64 < s.size
  · have h64i : (64 : Int) < (s.size : Int) := by omega
    have e3 : C = 3 := HM.out.2.1.trans (if_pos h64)
    have HZ := As.mk e3
    clear e3 h64
    go_wp2
    go_ret2
    refine ⟨by rw [HN.out.2, HZ.out]; rfl, ?_, HB2.out.mono hbase⟩
    rw [HN.out.1, HZ.out, if_neg (by decide)]
    exact HH.out.below HB2.out
  have h64i : ¬ (64 : Int) < (s.size : Int) := by omega
  by_cases h1000 : 1000 ≤ E.length
  · have h1000i : (1000 : Int) ≤ (E.length : Int) := by omega
    have e3 : C = 5 := HM.out.2.1.trans ((if_neg h64).trans (if_pos h1000))
    have HZ := As.mk e3
    clear e3 h64 h1000
    go_wp2
    go_ret2
    refine ⟨by rw [HN.out.2, HZ.out]; rfl, ?_, HB2.out.mono hbase⟩
    rw [HN.out.1, HZ.out, if_neg (by decide)]
    exact HH.out.below HB2.out
  have h1000i : ¬ (1000 : Int) ≤ (E.length : Int) := by omega
  have hl := lookup_ok (P := Tryz.prog) (E := encStr) Tryz.underlying189 Tryz.underlying9 HR.out.bytes s (z := .int .i64 0) (by kernel_rfl)
  rw [get_bytl] at hl
  simp only [encStr] at hl
  have c1 := HR.out.c1
  cases hi : idxB E s with
  | some i =>
    rw [hi] at hl
    simp only [Option.map_some, Option.getD_some, Option.isSome_some] at hl
    have e3 : C = 10 := HM.out.2.1.trans ((if_neg h64).trans ((if_neg h1000).trans (by rw [hi]; rfl)))
    have HZ := As.mk e3
    clear e3 h64 h1000 hi
    go_wp2
    go_ret2
    refine ⟨by rw [HN.out.2, HZ.out]; rfl, ?_, HB2.out.mono hbase⟩
    rw [HN.out.1, HZ.out, if_neg (by decide)]
    exact HH.out.below HB2.out
  | none =>
    rw [hi] at hl
    simp only [Option.map_none, Option.getD_none, Option.isSome_none] at hl
    have e3 : C = 0 := HM.out.2.1.trans ((if_neg h64).trans ((if_neg h1000).trans (by rw [hi]; rfl)))
    have HZ := As.mk e3
    have HI := As.mk hi
    have HK := As.mk (And.intro h64 h1000)
    clear e3 h64 h1000 hi
    go_wp2
    have hnp : some p ≠ (Value.slice (some ad) E.length c).ownBlock := Kd.R_ne HR.out.rows HR.out.blk (by decide)
    have hnm : some w.heap.size ≠ (Value.slice (some ad) E.length c).ownBlock := Kd.R_ne HR.out.rows HE.out (by decide)
    have hwb : w.heap.size ≠ bm := fun e => by obtain ⟨_, _, _, _, _, q⟩ := HH.out.raw; have := q.bytes.lt; omega
    have hwm : w.heap.size ≠ pm := fun e => by obtain ⟨_, _, _, _, _, q⟩ := HH.out.raw; have := q.pairs.lt; omega
    have HNE := As.mk (And.intro hnp (And.intro hnm (And.intro hwb hwm)))
    clear hnp hnm hwb hwm c1 hl
    refine start_ (n := 13) (S := fun w' => w'.cell? ⟨p, 0, none⟩ = some (.slice (some ad) E.length c) ∧ w'.cell? ⟨w.heap.size, 0, none⟩ = some (.int .i64 (x : Int)) ∧ w'.cell? ⟨w.heap.size, 1, none⟩ = some (.int .i64 (y : Int))) (ds := [12]) #[false, false, false, false, false, false, false, false, false, false, false, false, false] (by kernel_rfl) rfl rfl (⟨c0, m0, m1⟩) (fun hHeld => ?_)
    have HR3 := As.mk (HR.out.below (below_drew1 (Below.refl _ _))); have HB3 := As.mk (below_drew1 HB2.out); have HE3 : As (w2.drew.heap[w.heap.size]? = some (Obj.cells #[Value.int IntKind.i64 ↑x, Value.int IntKind.i64 ↑y] 91)) := As.mk HE.out; clear HR HB2 HE c0 m0 m1; generalize w2.drew = w3 at HR3 HB3 HE3 hHeld ⊢; have HH3 := As.mk hHeld
    refine pure_ (i := 0) (N := some 69) (v := ?_) (a' := ?_) #[true, false, false, false, false, false, false, false, false, false, false, false, false] rfl rfl (by kernel_rfl) (fun _ _ _ h => h) (Or.inl ⟨by rfl, ?_⟩) ?_ ?_
    rotate_left
    · intro w'
      go_simp
      with_reducible rfl
    rotate_left
    · simp only [Act.put, List.setIfInBounds_toArray, List.set_cons_zero, List.set_cons_succ, i64_w, i32_w]
      rfl
    refine pure_ (i := 1) (N := some 70) (v := ?_) (a' := ?_) #[true, true, false, false, false, false, false, false, false, false, false, false, false] rfl rfl (by kernel_rfl) (fun _ _ _ h => h) (Or.inl ⟨by rfl, ?_⟩) ?_ ?_
    rotate_left
    · intro w'
      go_simp
      with_reducible rfl
    rotate_left
    · simp only [Act.put, List.setIfInBounds_toArray, List.set_cons_zero, List.set_cons_succ, i64_w, i32_w]
      rfl
    refine pure_ (i := 2) (N := some 71) (v := ?_) (a' := ?_) #[true, true, true, false, false, false, false, false, false, false, false, false, false] rfl rfl (by kernel_rfl) (fun _ _ _ h => h) (Or.inl ⟨by rfl, ?_⟩) ?_ ?_
    rotate_left
    · intro w'
      go_simp
      with_reducible rfl
    rotate_left
    · simp only [Act.put, List.setIfInBounds_toArray, List.set_cons_zero, List.set_cons_succ, i64_w, i32_w]
      rfl
    refine pure_ (i := 3) (N := some 72) (v := ?_) (a' := ?_) #[true, true, true, true, false, false, false, false, false, false, false, false, false] rfl rfl (by kernel_rfl) (fun _ _ _ h => h) (Or.inl ⟨by rfl, ?_⟩) ?_ ?_
    rotate_left
    · intro w'
      go_simp
      with_reducible rfl
    rotate_left
    · simp only [Act.put, List.setIfInBounds_toArray, List.set_cons_zero, List.set_cons_succ, i64_w, i32_w]
      rfl
    refine pure_ (i := 5) (N := some 74) (v := ?_) (a' := ?_) #[true, true, true, true, false, true, false, false, false, false, false, false, false] rfl rfl (by kernel_rfl) (fun _ _ _ h => h) (Or.inl ⟨by rfl, ?_⟩) ?_ ?_
    rotate_left
    · intro w'
      go_simp
      with_reducible rfl
    rotate_left
    · simp only [Act.put, List.setIfInBounds_toArray, List.set_cons_zero, List.set_cons_succ, i64_w, i32_w]
      rfl
    refine take_ (i := 4) (N := some 73) (v := ?_) (a' := ?_) #[true, true, true, true, true, true, false, false, false, false, false, false, false] rfl rfl (by kernel_rfl) (fun _ _ _ h => h) (Or.inl ⟨by rfl, ?_⟩) hHeld ?_ ?_
    rotate_left
    · intro w' hS'
      obtain ⟨t0, t1, t2⟩ := hS'
      go_simp
      with_reducible rfl
    rotate_left
    · simp only [Act.put, List.setIfInBounds_toArray, List.set_cons_zero, List.set_cons_succ, i64_w, i32_w]
      rfl
    refine take_ (i := 6) (N := some 75) (v := ?_) (a' := ?_) #[true, true, true, true, true, true, true, false, false, false, false, false, false] rfl rfl (by kernel_rfl) (fun _ _ _ h => h) (Or.inl ⟨by rfl, ?_⟩) hHeld ?_ ?_
    rotate_left
    · intro w' hS'
      obtain ⟨t0, t1, t2⟩ := hS'
      go_simp
      with_reducible rfl
    rotate_left
    · simp only [Act.put, List.setIfInBounds_toArray, List.set_cons_zero, List.set_cons_succ, i64_w, i32_w]
      rfl
    refine pure_ (i := 7) (N := some 76) (v := ?_) (a' := ?_) #[true, true, true, true, true, true, true, true, false, false, false, false, false] rfl rfl (by kernel_rfl) (fun _ _ _ h => h) (Or.inl ⟨by rfl, ?_⟩) ?_ ?_
    rotate_left
    · intro w'
      go_simp
      with_reducible rfl
    rotate_left
    · simp only [Act.put, List.setIfInBounds_toArray, List.set_cons_zero, List.set_cons_succ, i64_w, i32_w]
      rfl
    refine one_ (i := 8) (N := some 77) #[true, true, true, true, true, true, true, true, true, false, false, false, false] rfl rfl (by kernel_rfl) (by decide) (fun K hK => ?_)
    refine value_ (w1 := w3.alloc (.cells #[.string s, .int .i64 (x : Int), .int .i64 (y : Int)] 223)) (v := .slice (some ⟨w3.heap.size, 0, none⟩) 1 1) (by rfl) rfl ?_ ?_
    · first | (go_simp; done) | (go_simp; rfl)
    refine hK.out _ _ (⟨pw_cell_below (below_alloc (Below.refl _ _) _) hHeld.1, pw_cell_below (below_alloc (Below.refl _ _) _) hHeld.2.1, pw_cell_below (below_alloc (Below.refl _ _) _) hHeld.2.2⟩) (fun hHeld => ?_)
    clear hK K
    refine norm_ (a' := ?_) ?_ ?_
    rotate_left
    · (simp only [Act.put, List.setIfInBounds_toArray, List.set_cons_zero, List.set_cons_succ]; rfl)
    refine one_ (i := 9) (N := some 78) #[true, true, true, true, true, true, true, true, true, true, false, false, false] rfl rfl (by kernel_rfl) (by decide) (fun K hK => ?_)
    refine Kd.R_append_step kEnt (w0 := w) base (by rfl) (.tmp 73) (.tmp 77) 224 223 (.agg #[.string ⟨#[]⟩, .int .i64 0, .int .i64 0]) 32 rfl Tryz.underlying224 info_ent rfl (by decide) (by omega) (.slice (some ad) E.length c) E ⟨s, (x : Int), (y : Int)⟩ [.string s, .int .i64 (x : Int), .int .i64 (y : Int)] (fun _ => True) (fun _ => False) rfl ?aX ?aP (fun _ hk => hk.elim) (fun _ _ => trivial) HR3.out.rows (HB3.out.mono hbase) (Nat.le_trans hbase HB3.out.size) (by have := HK.out; omega) ?_
    (case aX => exact rfl)
    (case aP => exact kEnt_mkM _ _ _ ⟨s, (x : Int), (y : Int)⟩)
    intro v1 w4 ho hb hg hat
    obtain ⟨A1, n1, k1, rfl⟩ : ∃ A1 n1 k1, v1 = .slice A1 n1 k1 := (by obtain ⟨A1, k1, h⟩ := Kd.R_slice ho; exact ⟨A1, _, k1, h⟩)
    have hc4 := cell_grown hg HH3.out.1 HNE.out.1
    have hfz := blk_frozen (blk_grown HR3.out.blk hg HNE.out.1) 0
    have HT4 := As.mk (HR3.out.told hg ho)
    have HB4 := As.mk hb
    refine hK.out _ _ ⟨hc4, cell_grown hg HH3.out.2.1 HNE.out.2.1, cell_grown hg HH3.out.2.2 HNE.out.2.1⟩ (fun hHeld => ?_)
    clear hK K
    refine norm_ (a' := ?_) ?_ ?_
    rotate_left
    · (show Act.put _ (some 78) _ = _; simp only [Act.put, List.setIfInBounds_toArray, List.set_cons_zero, List.set_cons_succ]; rfl)
    refine pure_ (i := 10) (N := some 79) (v := ?_) (a' := ?_) #[true, true, true, true, true, true, true, true, true, true, true, false, false] rfl rfl (by kernel_rfl) (fun _ _ _ h => h) (Or.inl ⟨by rfl, ?_⟩) ?_ ?_
    rotate_left
    · intro w'
      go_simp
      with_reducible rfl
    rotate_left
    · simp only [Act.put, List.setIfInBounds_toArray, List.set_cons_zero, List.set_cons_succ, i64_w, i32_w]
      rfl
    refine pure_ (i := 11) (N := some 80) (v := ?_) (a' := ?_) #[true, true, true, true, true, true, true, true, true, true, true, true, false] rfl rfl (by kernel_rfl) (fun _ _ _ h => h) (Or.inl ⟨by rfl, ?_⟩) ?_ ?_
    rotate_left
    · intro w'
      go_simp
      with_reducible rfl
    rotate_left
    · simp only [Act.put, List.setIfInBounds_toArray, List.set_cons_zero, List.set_cons_succ, i64_w, i32_w]
      rfl
    refine last_ (i := 12) (N := none) #[true, true, true, true, true, true, true, true, true, true, true, true, true] rfl rfl (by kernel_rfl) (by decide) (fun K hK => ?_)
    refine skip_ (w1 := w4.setCell ⟨p, 0, none⟩ (.slice A1 n1 k1)) (by rfl) rfl ?_ ?_
    · first | (go_simp; done) | (go_simp; rfl)
    refine hK.out _ _ ?_
    clear hK K
    refine done_ (by kernel_rfl) ?_
    have hwp : w.heap.size ≠ p := fun e => by obtain ⟨_, _, _, _, _, q⟩ := HH.out.raw; have := blk_lt q.blk; omega
    have m0 : (w4.setCell ⟨p, 0, none⟩ (.slice A1 n1 k1)).cell? ⟨w.heap.size, 0, none⟩ = some (.int .i64 (x : Int)) := by rw [World.cell?_setCell_far _ _ _ _ (Ne.symm hwp)]; exact hHeld.2.1
    have m1 : (w4.setCell ⟨p, 0, none⟩ (.slice A1 n1 k1)).cell? ⟨w.heap.size, 1, none⟩ = some (.int .i64 (y : Int)) := by rw [World.cell?_setCell_far _ _ _ _ (Ne.symm hwp)]; exact hHeld.2.2
    have HB5 := As.mk (HB4.out.setCell (p := ⟨p, 0, none⟩) HH.out.raw.choose_spec.choose_spec.choose_spec.2.2.lp (.slice A1 n1 k1))
    have c1 := HT4.out.c1
    have c2 := HT4.out.c2
    rename_i hH1 hH2
    clear hHeld hH1 hH2 hc4 hfz hb hg hat ho HB4 HR3 HB3 HE3 HH3 hwp
    generalize w4.setCell ⟨p, 0, none⟩ (.slice A1 n1 k1) = w5 at HT4 HB5 m0 m1 c1 c2 ⊢
    go_wp2
    have hpb : p ≠ bm := HT4.out.npb
    have hpm : p ≠ pm := HT4.out.npm
    have hwb := HNE.out.2.2.1
    have hwm := HNE.out.2.2.2
    refine start_ (n := 18) (S := fun w' => w'.cell? ⟨p, 1, none⟩ = some (.map (some bm)) ∧ w'.cell? ⟨p, 2, none⟩ = some (.map (some pm)) ∧ w'.cell? ⟨w.heap.size, 0, none⟩ = some (.int .i64 (x : Int)) ∧ w'.cell? ⟨w.heap.size, 1, none⟩ = some (.int .i64 (y : Int))) (ds := []) #[false, false, false, false, false, false, false, false, false, false, false, false, false, false, false, false, false, false] (by kernel_rfl) rfl rfl (⟨c1, c2, m0, m1⟩) (fun hHeld => ?_)
    have HT6 := As.mk (HT4.out.below (below_drew1 (Below.refl _ _))); have HB6 := As.mk (below_drew1 HB5.out); clear HT4 HB5 m0 m1 c1 c2; generalize w5.drew = w6 at HT6 HB6 hHeld ⊢; obtain ⟨n2, w7, r1, b1, k1⟩ := entry_run (P := Tryz.prog) (E := encStr) Tryz.underlying189 Tryz.underlying9 HT6.out.bytes s (by rw [get_bytl, HI.out]; rfl) (z := .int .i64 0) (by kernel_rfl); obtain ⟨w8, r2, b2, q1⟩ := k1 (.int .i64 E.length); clear k1; obtain ⟨n3, w9, r3, b3, k3⟩ := Ms.entry_run (mty := 225) (et := 3) Tryz.underlying225 (HT6.out.pairs.of_block ((b1.trans b2).block pm (Ne.symm HT6.out.ne))) ((x : Int), (y : Int)) (by rw [get_pairl, HH.out.good.pair_none (by rw [HM.out.2.2.2]; exact HI.out)]; rfl) (z := .int .i64 0) (by kernel_rfl); obtain ⟨w10, r4, b4, q2⟩ := k3 (.int .i64 E.length); clear k3; simp only [encStr] at r1 r2 r3 r4; unfold Ms.encM at r3
    refine pure_ (i := 0) (N := some 81) (v := ?_) (a' := ?_) #[true, false, false, false, false, false, false, false, false, false, false, false, false, false, false, false, false, false] rfl rfl (by kernel_rfl) (fun _ _ _ h => h) (Or.inl ⟨by rfl, ?_⟩) ?_ ?_
    rotate_left
    · intro w'
      go_simp
      with_reducible rfl
    rotate_left
    · simp only [Act.put, List.setIfInBounds_toArray, List.set_cons_zero, List.set_cons_succ, i64_w, i32_w]
      rfl
    refine pure_ (i := 1) (N := some 82) (v := ?_) (a' := ?_) #[true, true, false, false, false, false, false, false, false, false, false, false, false, false, false, false, false, false] rfl rfl (by kernel_rfl) (fun _ _ _ h => h) (Or.inl ⟨by rfl, ?_⟩) ?_ ?_
    rotate_left
    · intro w'
      go_simp
      with_reducible rfl
    rotate_left
    · simp only [Act.put, List.setIfInBounds_toArray, List.set_cons_zero, List.set_cons_succ, i64_w, i32_w]
      rfl
    refine pure_ (i := 2) (N := some 83) (v := ?_) (a' := ?_) #[true, true, true, false, false, false, false, false, false, false, false, false, false, false, false, false, false, false] rfl rfl (by kernel_rfl) (fun _ _ _ h => h) (Or.inl ⟨by rfl, ?_⟩) ?_ ?_
    rotate_left
    · intro w'
      go_simp
      with_reducible rfl
    rotate_left
    · simp only [Act.put, List.setIfInBounds_toArray, List.set_cons_zero, List.set_cons_succ, i64_w, i32_w]
      rfl
    refine pure_ (i := 4) (N := some 85) (v := ?_) (a' := ?_) #[true, true, true, false, true, false, false, false, false, false, false, false, false, false, false, false, false, false] rfl rfl (by kernel_rfl) (fun _ _ _ h => h) (Or.inl ⟨by rfl, ?_⟩) ?_ ?_
    rotate_left
    · intro w'
      go_simp
      with_reducible rfl
    rotate_left
    · simp only [Act.put, List.setIfInBounds_toArray, List.set_cons_zero, List.set_cons_succ, i64_w, i32_w]
      rfl
    refine pure_ (i := 5) (N := some 86) (v := ?_) (a' := ?_) #[true, true, true, false, true, true, false, false, false, false, false, false, false, false, false, false, false, false] rfl rfl (by kernel_rfl) (fun _ _ _ h => h) (Or.inl ⟨by rfl, ?_⟩) ?_ ?_
    rotate_left
    · intro w'
      go_simp
      with_reducible rfl
    rotate_left
    · simp only [Act.put, List.setIfInBounds_toArray, List.set_cons_zero, List.set_cons_succ, i64_w, i32_w]
      rfl
    refine pure_ (i := 6) (N := some 87) (v := ?_) (a' := ?_) #[true, true, true, false, true, true, true, false, false, false, false, false, false, false, false, false, false, false] rfl rfl (by kernel_rfl) (fun _ _ _ h => h) (Or.inl ⟨by rfl, ?_⟩) ?_ ?_
    rotate_left
    · intro w'
      go_simp
      with_reducible rfl
    rotate_left
    · simp only [Act.put, List.setIfInBounds_toArray, List.set_cons_zero, List.set_cons_succ, i64_w, i32_w]
      rfl
    refine pure_ (i := 7) (N := some 88) (v := ?_) (a' := ?_) #[true, true, true, false, true, true, true, true, false, false, false, false, false, false, false, false, false, false] rfl rfl (by kernel_rfl) (fun _ _ _ h => h) (Or.inl ⟨by rfl, ?_⟩) ?_ ?_
    rotate_left
    · intro w'
      go_simp
      with_reducible rfl
    rotate_left
    · simp only [Act.put, List.setIfInBounds_toArray, List.set_cons_zero, List.set_cons_succ, i64_w, i32_w]
      rfl
    refine pure_ (i := 10) (N := some 91) (v := ?_) (a' := ?_) #[true, true, true, false, true, true, true, true, false, false, true, false, false, false, false, false, false, false] rfl rfl (by kernel_rfl) (fun _ _ _ h => h) (Or.inl ⟨by rfl, ?_⟩) ?_ ?_
    rotate_left
    · intro w'
      go_simp
      with_reducible rfl
    rotate_left
    · simp only [Act.put, List.setIfInBounds_toArray, List.set_cons_zero, List.set_cons_succ, i64_w, i32_w]
      rfl
    refine pure_ (i := 11) (N := some 92) (v := ?_) (a' := ?_) #[true, true, true, false, true, true, true, true, false, false, true, true, false, false, false, false, false, false] rfl rfl (by kernel_rfl) (fun _ _ _ h => h) (Or.inl ⟨by rfl, ?_⟩) ?_ ?_
    rotate_left
    · intro w'
      go_simp
      with_reducible rfl
    rotate_left
    · simp only [Act.put, List.setIfInBounds_toArray, List.set_cons_zero, List.set_cons_succ, i64_w, i32_w]
      rfl
    refine take_ (i := 3) (N := some 84) (v := ?_) (a' := ?_) #[true, true, true, true, true, true, true, true, false, false, true, true, false, false, false, false, false, false] rfl rfl (by kernel_rfl) (fun _ _ _ h => h) (Or.inl ⟨by rfl, ?_⟩) hHeld ?_ ?_
    rotate_left
    · intro w' hS'
      obtain ⟨t0, t1, t2, t3⟩ := hS'
      go_simp
      with_reducible rfl
    rotate_left
    · simp only [Act.put, List.setIfInBounds_toArray, List.set_cons_zero, List.set_cons_succ, i64_w, i32_w]
      rfl
    refine take_ (i := 8) (N := some 89) (v := ?_) (a' := ?_) #[true, true, true, true, true, true, true, true, true, false, true, true, false, false, false, false, false, false] rfl rfl (by kernel_rfl) (fun _ _ _ h => h) (Or.inl ⟨by rfl, ?_⟩) hHeld ?_ ?_
    rotate_left
    · intro w' hS'
      obtain ⟨t0, t1, t2, t3⟩ := hS'
      go_simp
      with_reducible rfl
    rotate_left
    · simp only [Act.put, List.setIfInBounds_toArray, List.set_cons_zero, List.set_cons_succ, i64_w, i32_w]
      rfl
    refine take_ (i := 9) (N := some 90) (v := ?_) (a' := ?_) #[true, true, true, true, true, true, true, true, true, true, true, true, false, false, false, false, false, false] rfl rfl (by kernel_rfl) (fun _ _ _ h => h) (Or.inl ⟨by rfl, ?_⟩) hHeld ?_ ?_
    rotate_left
    · intro w' hS'
      obtain ⟨t0, t1, t2, t3⟩ := hS'
      go_simp
      with_reducible rfl
    rotate_left
    · simp only [Act.put, List.setIfInBounds_toArray, List.set_cons_zero, List.set_cons_succ, i64_w, i32_w]
      rfl
    refine one_ (i := 12) (N := some 93) #[true, true, true, true, true, true, true, true, true, true, true, true, true, false, false, false, false, false] rfl rfl (by kernel_rfl) (by decide) (fun K hK => ?_)
    refine value_ (w1 := w7) (v := .tuple #[.int .i64 0, .int .i64 n2]) (by rfl) rfl ?_ ?_
    · first | (go_simp; done) | (go_simp; rfl)
    refine hK.out _ _ (by simpa only [b1.cell (a := ⟨p, 1, none⟩) hpb, b1.cell (a := ⟨p, 2, none⟩) hpb, b1.cell (a := ⟨w.heap.size, 0, none⟩) hwb, b1.cell (a := ⟨w.heap.size, 1, none⟩) hwb] using hHeld) (fun hHeld => ?_)
    clear hK K
    refine norm_ (a' := ?_) ?_ ?_
    rotate_left
    · (simp only [Act.put, List.setIfInBounds_toArray, List.set_cons_zero, List.set_cons_succ]; rfl)
    refine pure_ (i := 13) (N := some 94) (v := ?_) (a' := ?_) #[true, true, true, true, true, true, true, true, true, true, true, true, true, true, false, false, false, false] rfl rfl (by kernel_rfl) (fun _ _ _ h => h) (Or.inl ⟨by rfl, ?_⟩) ?_ ?_
    rotate_left
    · intro w'
      go_simp
      with_reducible rfl
    rotate_left
    · simp only [Act.put, List.setIfInBounds_toArray, List.set_cons_zero, List.set_cons_succ, i64_w, i32_w]
      rfl
    refine one_ (i := 14) (N := none) #[true, true, true, true, true, true, true, true, true, true, true, true, true, true, true, false, false, false] rfl rfl (by kernel_rfl) (by decide) (fun K hK => ?_)
    refine skip_ (w1 := w8) (by rfl) rfl ?_ ?_
    · first | (go_simp; done) | (go_simp; rfl)
    refine hK.out _ _ (by simpa only [b2.cell (a := ⟨p, 1, none⟩) hpb, b2.cell (a := ⟨p, 2, none⟩) hpb, b2.cell (a := ⟨w.heap.size, 0, none⟩) hwb, b2.cell (a := ⟨w.heap.size, 1, none⟩) hwb] using hHeld) (fun hHeld => ?_)
    clear hK K
    refine one_ (i := 15) (N := some 95) #[true, true, true, true, true, true, true, true, true, true, true, true, true, true, true, true, false, false] rfl rfl (by kernel_rfl) (by decide) (fun K hK => ?_)
    refine value_ (w1 := w9) (v := .tuple #[.int .i64 0, .int .i64 n3]) (by rfl) rfl ?_ ?_
    · first | (go_simp; done) | (go_simp; rfl)
    refine hK.out _ _ (by simpa only [b3.cell (a := ⟨p, 1, none⟩) hpm, b3.cell (a := ⟨p, 2, none⟩) hpm, b3.cell (a := ⟨w.heap.size, 0, none⟩) hwm, b3.cell (a := ⟨w.heap.size, 1, none⟩) hwm] using hHeld) (fun hHeld => ?_)
    clear hK K
    refine norm_ (a' := ?_) ?_ ?_
    rotate_left
    · (simp only [Act.put, List.setIfInBounds_toArray, List.set_cons_zero, List.set_cons_succ]; rfl)
    refine pure_ (i := 16) (N := some 96) (v := ?_) (a' := ?_) #[true, true, true, true, true, true, true, true, true, true, true, true, true, true, true, true, true, false] rfl rfl (by kernel_rfl) (fun _ _ _ h => h) (Or.inl ⟨by rfl, ?_⟩) ?_ ?_
    rotate_left
    · intro w'
      go_simp
      with_reducible rfl
    rotate_left
    · simp only [Act.put, List.setIfInBounds_toArray, List.set_cons_zero, List.set_cons_succ, i64_w, i32_w]
      rfl
    refine one_ (i := 17) (N := none) #[true, true, true, true, true, true, true, true, true, true, true, true, true, true, true, true, true, true] rfl rfl (by kernel_rfl) (by decide) (fun K hK => ?_)
    refine skip_ (w1 := w10) (by rfl) rfl ?_ ?_
    · first | (go_simp; done) | (go_simp; rfl)
    refine hK.out _ _ (by simpa only [b4.cell (a := ⟨p, 1, none⟩) hpm, b4.cell (a := ⟨p, 2, none⟩) hpm, b4.cell (a := ⟨w.heap.size, 0, none⟩) hwm, b4.cell (a := ⟨w.heap.size, 1, none⟩) hwm] using hHeld) (fun hHeld => ?_)
    clear hK K
    refine done_ (by kernel_rfl) ?_
    have h256 := HH.out.good.many.1
    have HT := As.mk ((HT6.out.putB (b1.trans b2) (I' := E ++ [⟨s, (x : Int), (y : Int)⟩]) (by rw [bytl_snoc]; exact q1)).putP (b3.trans b4) (P' := (E ++ [({ f0 := s, f1 := (x : Int), f2 := (y : Int) } : Ent)]).drop 256) (by rw [List.drop_append_of_le_length h256, pairl_snoc, List.length_drop, Nat.add_sub_cancel' h256]; exact q2))
    have HB := As.mk ((HB6.out.trans ((b1.trans b2).below HT6.out.lb)).trans ((b3.trans b4).below HT6.out.lm))
    clear r1 r2 r3 r4 b1 b2 b3 b4 q1 q2 HT6 HB6
    have c3 := HT.out.c3
    have hfz := blk_frozen HT.out.blk 3
    go_wp2
    go_ret2
    have hT := HT.out.long (mxI lg s.size)
    have e1 : E' = E ++ [newE E (x : Int) (y : Int)] := by rw [HN.out.1, HZ.out, if_pos rfl]
    have e2 : newE E (x : Int) (y : Int) = ({ f0 := s, f1 := (x : Int), f2 := (y : Int) } : Ent) := by unfold newE; rw [HM.out.2.2.2]
    refine ⟨by rw [HN.out.2, HZ.out]; rfl, ?_, HB.out.setCell (p := ⟨p, 3, none⟩) HT.out.lp _⟩
    rw [← e2, ← e1] at hT
    obtain ⟨A9, c9, e9⟩ := Kd.R_slice hT.rows
    rw [e9] at hT
    refine ⟨?_, A9, c9, mxI lg s.size, ?_, ?_, hT⟩
    · rw [e1]; exact HH.out.good.add (HM.out.2.2.1.symm.trans HZ.out)
    · unfold mxI; split <;> omega
    · unfold mxI; split <;> omega
end Go.Proofs.YtkffhgiiejbnaaaGreat.Tk
