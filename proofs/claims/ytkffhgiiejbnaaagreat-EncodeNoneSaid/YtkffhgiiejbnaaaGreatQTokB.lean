import Derived.Test.YtkffhgiiejbnaaaGreatQTokA
set_option linter.unusedVariables false
set_option linter.unusedSimpArgs false
namespace Go.Proofs.YtkffhgiiejbnaaaGreat.Tk
open Go.RowKit Go.Proofs.YtkffhgiiejbnaaaGreatW.PrintWords Go.Proofs.YtkffhgiiejbnaaaGreatW.PrintLast Go.Proofs.YtkffhgiiejbnaaaGreatW.PrintMore Go.Proofs.YtkffhgiiejbnaaaGreat.Rf Go.Proofs.YtkffhgiiejbnaaaGreat.Aid Go.Proofs.YtkffhgiiejbnaaaGreat.Mp Go.Proofs.YtkffhgiiejbnaaaGreat.Hp
attribute [local go_sem] Aid.max_two Aid.min_two min2_mn max2_mx
set_option linter.unusedVariables false
set_option linter.unusedSimpArgs false
set_option maxHeartbeats 400000
structure TabRaw (w : World) (base p : Nat) (v : Value) (bm pm : Nat) (lg : Int) (R I P : List Ent) : Prop where
  lp : base ≤ p
  lb : base ≤ bm
  lm : base ≤ pm
  ne : bm ≠ pm
  blk : w.heap[p]? = some (.cells #[v, .map (some bm), .map (some pm), .int .i64 lg] 227 (0, 0))
  rows : Kd.R kEnt 223 w base (fun _ => True) v R
  bytes : MapIs encStr w bm (bytl I)
  pairs : Ms.MapIs w pm (pairl P)
theorem TabRaw.below {w w' : World} {base p bm pm : Nat} {v : Value} {lg : Int} {R I P : List Ent} (h : TabRaw w base p v bm pm lg R I P) (hb : Below w.heap.size w w') : TabRaw w' base p v bm pm lg R I P :=
  ⟨h.lp, h.lb, h.lm, h.ne, (hb.block _ (blk_lt h.blk)).trans h.blk, Kd.R_below h.rows hb, h.bytes.of_block (hb.block _ h.bytes.lt), h.pairs.of_block (hb.block _ h.pairs.lt)⟩
theorem TabRaw.npb {w : World} {base p bm pm : Nat} {v : Value} {lg : Int} {R I P : List Ent} (h : TabRaw w base p v bm pm lg R I P) : p ≠ bm := fun e => by
  obtain ⟨es, cl, he, _⟩ := h.bytes
  rw [← e, h.blk] at he; cases he
theorem TabRaw.npm {w : World} {base p bm pm : Nat} {v : Value} {lg : Int} {R I P : List Ent} (h : TabRaw w base p v bm pm lg R I P) : p ≠ pm := fun e => by
  obtain ⟨es, cl, he, _⟩ := h.pairs
  rw [← e, h.blk] at he; cases he
theorem TabRaw.putB {w w' : World} {base p bm pm : Nat} {v : Value} {lg : Int} {R I I' P : List Ent} (h : TabRaw w base p v bm pm lg R I P) (hb : But bm w w') (hm : MapIs encStr w' bm (bytl I')) : TabRaw w' base p v bm pm lg R I' P := by
  obtain ⟨es, cl, he, _⟩ := h.bytes
  exact ⟨h.lp, h.lb, h.lm, h.ne, (hb.block _ h.npb).trans h.blk, R_but h.rows hb he, hm, h.pairs.of_block (hb.block _ (Ne.symm h.ne))⟩
theorem TabRaw.putP {w w' : World} {base p bm pm : Nat} {v : Value} {lg : Int} {R I P P' : List Ent} (h : TabRaw w base p v bm pm lg R I P) (hb : But pm w w') (hm : Ms.MapIs w' pm (pairl P')) : TabRaw w' base p v bm pm lg R I P' := by
  obtain ⟨es, cl, he, _⟩ := h.pairs
  exact ⟨h.lp, h.lb, h.lm, h.ne, (hb.block _ h.npm).trans h.blk, R_but h.rows hb he, h.bytes.of_block (hb.block _ h.ne), hm⟩
theorem TabRaw.told {w w' : World} {base p bm pm : Nat} {v v1 : Value} {lg : Int} {R R' I P : List Ent} (h : TabRaw w base p v bm pm lg R I P) (hg : w.grownBy w' v.ownBlock) (hr : Kd.R kEnt 223 w' base (fun _ => True) v1 R') : TabRaw (w'.setCell ⟨p, 0, none⟩ v1) base p v1 bm pm lg R' I P := by
  have hp := blk_grown h.blk hg (Kd.R_ne h.rows h.blk (by decide))
  have hnb : some bm ≠ v.ownBlock := fun he => by
    obtain ⟨cells, hc⟩ := Kd.R_typed h.rows bm he.symm
    obtain ⟨es, cl, hm, _⟩ := h.bytes
    rw [hm] at hc; cases hc
  have hnp : some pm ≠ v.ownBlock := fun he => by
    obtain ⟨cells, hc⟩ := Kd.R_typed h.rows pm he.symm
    obtain ⟨es, cl, hm, _⟩ := h.pairs
    rw [hm] at hc; cases hc
  exact ⟨h.lp, h.lb, h.lm, h.ne, blk_set hp 0 v1, Kd.R_set hr hp (by decide) 0 v1, (h.bytes.of_block (hg.block _ h.bytes.lt hnb)).of_block (Below.heap_setCell w' ⟨p, 0, none⟩ v1 bm (Ne.symm h.npb)), (h.pairs.of_block (hg.block _ h.pairs.lt hnp)).of_block (Below.heap_setCell w' ⟨p, 0, none⟩ v1 pm (Ne.symm h.npm))⟩
theorem TabRaw.long {w : World} {base p bm pm : Nat} {v : Value} {lg : Int} {R I P : List Ent} (h : TabRaw w base p v bm pm lg R I P) (lg' : Int) : TabRaw (w.setCell ⟨p, 3, none⟩ (.int .i64 lg')) base p v bm pm lg' R I P :=
  ⟨h.lp, h.lb, h.lm, h.ne, blk_set h.blk 3 (.int .i64 lg'), Kd.R_set h.rows h.blk (by decide) 3 _, h.bytes.of_block (Below.heap_setCell w ⟨p, 3, none⟩ _ bm (Ne.symm h.npb)), h.pairs.of_block (Below.heap_setCell w ⟨p, 3, none⟩ _ pm (Ne.symm h.npm))⟩
theorem TabRaw.c0 {w : World} {base p bm pm : Nat} {v : Value} {lg : Int} {R I P : List Ent} (h : TabRaw w base p v bm pm lg R I P) : w.cell? ⟨p, 0, none⟩ = some v := by simp only [World.cell?, h.blk]; rfl
theorem TabRaw.c1 {w : World} {base p bm pm : Nat} {v : Value} {lg : Int} {R I P : List Ent} (h : TabRaw w base p v bm pm lg R I P) : w.cell? ⟨p, 1, none⟩ = some (.map (some bm)) := by simp only [World.cell?, h.blk]; rfl
theorem TabRaw.c2 {w : World} {base p bm pm : Nat} {v : Value} {lg : Int} {R I P : List Ent} (h : TabRaw w base p v bm pm lg R I P) : w.cell? ⟨p, 2, none⟩ = some (.map (some pm)) := by simp only [World.cell?, h.blk]; rfl
theorem TabRaw.c3 {w : World} {base p bm pm : Nat} {v : Value} {lg : Int} {R I P : List Ent} (h : TabRaw w base p v bm pm lg R I P) : w.cell? ⟨p, 3, none⟩ = some (.int .i64 lg) := by simp only [World.cell?, h.blk]; rfl
def byteE (i : Nat) : Ent := ⟨⟨#[UInt8.ofNat i]⟩, -1, -1⟩
def byteL (n : Nat) : List Ent := (List.range n).map byteE
theorem byteL_len (n : Nat) : (byteL n).length = n := by simp [byteL]
theorem byteL_succ (n : Nat) : byteL (n + 1) = byteL n ++ [byteE n] := by simp [byteL, List.range_succ]
theorem byteE_inj {i j : Nat} (hi : i < 256) (hj : j < 256) (h : (byteE i).f0 = (byteE j).f0) : i = j := by
  simp [byteE] at h
  have := congrArg UInt8.toNat h
  simp at this
  omega
theorem idxB_byteL (n : Nat) (hn : n < 256) : idxB (byteL n) (byteE n).f0 = none := by
  unfold idxB
  rw [List.findIdx?_eq_none_iff]
  intro x hx
  unfold byteL at hx
  obtain ⟨i, hi, rfl⟩ := List.mem_map.1 hx
  have := List.mem_range.1 hi
  simp only [decide_eq_true_eq, Bool.not_eq_true, decide_eq_false_iff_not]
  intro e
  have := byteE_inj (by omega) hn e
  omega
theorem bytl_snoc (E : List Ent) (x : Ent) : bytl (E ++ [x]) = bytl E ++ [(x.f0, .int .i64 (E.length : Int))] := by simp [bytl, List.zipIdx_append]
theorem put_bytl (E : List Ent) (x : Ent) (h : idxB E x.f0 = none) : put (bytl E) x.f0 (.int .i64 (E.length : Int)) = bytl (E ++ [x]) := by
  rw [put_new (by rw [get_bytl, h]; rfl), bytl_snoc]
theorem begin0 (w : World) : TabRaw (((w.alloc (.map #[] 0)).alloc (.map #[] 0)).alloc (.cells #[.slice none 0 0, .map (some w.heap.size), .map (some (w.heap.size + 1)), .int .i64 1] 227)) w.heap.size (w.heap.size + 2) (.slice none 0 0) w.heap.size (w.heap.size + 1) 1 [] [] [] := by
  obtain ⟨h0, h1, h2⟩ := push3 w.heap (.map #[] 0) (.map #[] 0) (.cells #[.slice none 0 0, .map (some w.heap.size), .map (some (w.heap.size + 1)), .int .i64 1] 227 (0, 0))
  exact ⟨by omega, by omega, by omega, by omega, h2, Kd.R_nil _ _ _ _ _, ⟨#[], 0, h0, MapKept.stamped_empty 0, rfl⟩, ⟨#[], 0, h1, MapKept.stamped_empty 0, rfl⟩⟩
end Go.Proofs.YtkffhgiiejbnaaaGreat.Tk
