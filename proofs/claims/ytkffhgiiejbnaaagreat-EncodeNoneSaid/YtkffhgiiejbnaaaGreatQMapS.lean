import Derived.Test.YtkffhgiiejbnaaaGreatQMap
import Derived.Test.YtkffhgiiejbnaaaGreatQ01
set_option linter.unusedVariables false
set_option linter.unusedSimpArgs false
namespace Go.Proofs.YtkffhgiiejbnaaaGreat.Ms
open Go.MapKept Go.RowKit Go.Proofs.YtkffhgiiejbnaaaGreat.Mp
set_option linter.unusedVariables false
set_option linter.unusedSimpArgs false
def encM (k : Int × Int) : Value := .agg #[.int .i64 k.1, .int .i64 k.2]
theorem encM_inj {a b : Int × Int} (h : encM a = encM b) : a = b := by
  obtain ⟨a1, a2⟩ := a; obtain ⟨b1, b2⟩ := b
  simp [encM] at h
  rw [h.1, h.2]
theorem eq_run (a b : Int × Int) (w : World) : (Op.equal 91 (encM a) (encM b)).run Tryz.prog w = .ok (decide (a = b)) w := by
  obtain ⟨a1, a2⟩ := a; obtain ⟨b1, b2⟩ := b
  have hS : Tryz.prog.underlying 91 = some (.struct (Tryz.prog.fieldsOf 91)) := by kernel_rfl
  have hp : Tryz.prog.stoodInHeld 91 = false := by kernel_rfl
  have u3 := Tryz.underlying3
  have a3 := Tryz.isAgg3
  have z3 := Tryz.sizeOf3
  unfold Op.equal encM
  rw [show Op.maxDepth = 9999 + 1 from rfl, run_equalIn_agg w 9999 91 _ _ hS hp]
  simp only [Program.fieldsOf, Tryz.underlying91]
  go_simp
  by_cases h1 : a1 = b1 <;> by_cases h2 : a2 = b2 <;> simp [h1, h2]
theorem check_leaf (e : Bool) (n : Nat) (k : Int) (w : World) : (Instr.checkKey e (n + 1) 3 (.int .i64 k)).run Tryz.prog w = .ok () w := by
  simp [Instr.checkKey, run_underlying Tryz.underlying3, Result.andThen]
theorem check_two (e : Bool) (n : Nat) (a : Int × Int) (w : World) : (Instr.checkKey e (n + 1 + 1) 91 (encM a)).run Tryz.prog w = .ok () w := by
  have a3 := Tryz.isAgg3
  have z3 := Tryz.sizeOf3
  have hl := check_leaf e n
  unfold encM
  rw [Instr.checkKey]
  simp only [Sem.run_bind, run_underlying Tryz.underlying91, Result.andThen_ok]
  rw [← Array.forIn_toList]
  simp [part, asAgg, go_sem, hl, a3, z3]
theorem check_run (e : Bool) (a : Int × Int) (w : World) : (Instr.checkKey e 10000 91 (encM a)).run Tryz.prog w = .ok () w := check_two e 9998 a w
def MapIs (w : World) (b : Nat) (l : List ((Int × Int) × Value)) : Prop :=
  ∃ es clock, w.heap[b]? = some (.map es clock) ∧ Stamped es clock ∧ es.toList.map (fun e => (e.key, e.val)) = l.map (fun p => (encM p.1, p.2))
theorem MapIs.of_block {w w' : World} {b : Nat} {l : List ((Int × Int) × Value)} (h : MapIs w b l) (hb : w'.heap[b]? = w.heap[b]?) : MapIs w' b l := by
  obtain ⟨es, clock, h1, h2, h3⟩ := h
  exact ⟨es, clock, hb.trans h1, h2, h3⟩
theorem MapIs.lt {w : World} {b : Nat} {l : List ((Int × Int) × Value)} (h : MapIs w b l) : b < w.heap.size := by
  obtain ⟨es, clock, h1, _⟩ := h
  exact (Array.getElem?_eq_some_iff.1 h1).1
theorem asking (k : Int × Int) (w : World) : ∀ (es : List MapEntry) (l : List ((Int × Int) × Value)) (i : Nat), es.map (fun e => (e.key, e.val)) = l.map (fun p => (encM p.1, p.2)) →
    ((Instr.findAsking 91 (encM k) es i).run Tryz.prog w = .ok none w ∧ get? l k = none ∧ (∀ x ∈ es, x.key ≠ encM k)) ∨
    ∃ j e, (Instr.findAsking 91 (encM k) es i).run Tryz.prog w = .ok (some (i + j, e.val)) w ∧ es[j]? = some e ∧ e.key = encM k ∧ get? l k = some e.val
  | [], [], i, _ => .inl ⟨by simp [Instr.findAsking], rfl, by simp⟩
  | [], _ :: _, _, h => by simp at h
  | _ :: _, [], _, h => by simp at h
  | e :: es, p :: l, i, h => by
    simp only [List.map_cons, List.cons.injEq, Prod.mk.injEq] at h
    obtain ⟨⟨hk, hv⟩, ht⟩ := h
    rw [get?_cons]
    have hr := eq_run k p.1 w
    rw [← hk] at hr
    by_cases hp : k = p.1
    · rw [decide_eq_true hp] at hr
      exact .inr ⟨0, e, by simp [Instr.findAsking, hr, Result.andThen], rfl, by rw [hk, hp], by rw [if_pos hp.symm, hv]⟩
    · rw [decide_eq_false hp] at hr
      rw [if_neg (Ne.symm hp)]
      have hne : e.key ≠ encM k := fun q => hp (encM_inj (q.symm.trans hk))
      rcases asking k w es l (i + 1) ht with ⟨h1, h2, h3⟩ | ⟨j, e', h1, h2, h3, h4⟩
      · exact .inl ⟨by simp [Instr.findAsking, hr, h1, Result.andThen], h2, fun x hx => by
          cases hx with
          | head => exact hne
          | tail _ hx => exact h3 x hx⟩
      · exact .inr ⟨j + 1, e', by simp [Instr.findAsking, hr, h1, Result.andThen]; omega, by simpa using h2, h3, h4⟩
theorem find_spec (k : Int × Int) (w : World) (es : List MapEntry) (l : List ((Int × Int) × Value)) (h : es.map (fun e => (e.key, e.val)) = l.map (fun p => (encM p.1, p.2))) :
    ((Instr.findKey 91 (encM k) es).run Tryz.prog w = .ok none w ∧ get? l k = none ∧ (∀ x ∈ es, x.key ≠ encM k)) ∨
    ∃ j e, (Instr.findKey 91 (encM k) es).run Tryz.prog w = .ok (some (j, e.val)) w ∧ es[j]? = some e ∧ e.key = encM k ∧ get? l k = some e.val := by
  have ha := asking k w es l 0 h
  cases es with
  | nil =>
    rcases ha with ⟨_, h2, h3⟩ | ⟨j, e, _, h2, _⟩
    · exact .inl ⟨by simp [Instr.findKey, run_underlying Tryz.underlying91, Instr.findNow, Result.andThen], h2, h3⟩
    · simp at h2
  | cons e0 es =>
    have hn : ∀ fs, Instr.findNow (.struct fs) (encM k) (e0 :: es) 0 = none := fun fs => by simp [Instr.findNow, Instr.sameNow]
    have hf : (Instr.findKey 91 (encM k) (e0 :: es)).run Tryz.prog w = (Instr.findAsking 91 (encM k) (e0 :: es) 0).run Tryz.prog w := by
      simp [Instr.findKey, run_underlying Tryz.underlying91, hn, Result.andThen]
    rw [hf]
    rcases ha with h1 | ⟨j, e, h1, h2⟩
    · exact .inl h1
    · exact .inr ⟨j, e, by rw [h1, Nat.zero_add], h2⟩
section
variable {w : World} {mty et : TypeId} {b : Nat} {l : List ((Int × Int) × Value)}
theorem lookup_ok (hm : Tryz.prog.underlying mty = some (.map 91 et)) (h : MapIs w b l) (k : Int × Int) {z : Value} (hz : (zeroValue et).run Tryz.prog w = .ok z w) :
    (Instr.lookup mty (.map (some b)) (encM k) true).run Tryz.prog w = .ok (.tuple #[(get? l k).getD z, .bool (get? l k).isSome]) w := by
  obtain ⟨es, clock, hb, hs, hl⟩ := h
  rcases find_spec k w es.toList l hl with ⟨h1, h2, h3⟩ | ⟨j, e, h1, h2, h3, h4⟩
  · simp [Instr.lookup, run_underlying hm, MapKept.run_getObj_map hb, check_run, h1, hz, h2, Result.andThen]
  · simp [Instr.lookup, run_underlying hm, MapKept.run_getObj_map hb, check_run, h1, h4, Result.andThen]
theorem entry_run (hm : Tryz.prog.underlying mty = some (.map 91 et)) (h : MapIs w b l) (k : Int × Int) (hk : get? l k = none) {z : Value} (hz : (zeroValue et).run Tryz.prog w = .ok z w) :
    ∃ n w1, (Instr.mapEntry mty (.map (some b)) (encM k)).run Tryz.prog w = .ok (.tuple #[z, .int .i64 n]) w1 ∧ But b w w1 ∧
      ∀ v, ∃ w2, (Instr.entryStore mty (.map (some b)) (.int .i64 n) v).run Tryz.prog w1 = .ok () w2 ∧ But b w1 w2 ∧ MapIs w2 b (l ++ [(k, v)]) := by
  obtain ⟨es, clock, hb, hs, hl⟩ := h
  rcases find_spec k w es.toList l hl with ⟨h1, h2, h3⟩ | ⟨j, e, h1, h2, h3, h4⟩
  · have hs' := stamped_push (val := z) hs h3
    refine ⟨clock, { w with heap := w.heap.setIfInBounds b (.map (es.push { key := encM k, val := z, born := clock }) (clock + 1)) }, by simp [Instr.mapEntry, run_underlying hm, MapKept.run_getObj_map hb, check_run, h1, hz, run_setObj_map _ hb, Result.andThen, goInt], But.of_set _ _ _, fun v => ?_⟩
    obtain ⟨w1, hw1⟩ : ∃ w1 : World, w1 = { w with heap := w.heap.setIfInBounds b (.map (es.push { key := encM k, val := z, born := clock }) (clock + 1)) } := ⟨_, rfl⟩
    rw [← hw1]
    have hb1 : w1.heap[b]? = some (.map (es.push { key := encM k, val := z, born := clock }) (clock + 1)) := by rw [hw1]; exact (heap_set (o' := .map (es.push { key := encM k, val := z, born := clock }) (clock + 1)) hb).1
    have hfind : (es.push { key := encM k, val := z, born := clock }).findIdx? (fun e => (e.born : Int) == (clock : Int)) = some es.size := by
      rw [Array.findIdx?_push]
      have : es.findIdx? (fun e => (e.born : Int) == (clock : Int)) = none := by
        rw [Array.findIdx?_eq_none_iff]
        intro x hx
        have := hs.1 x (Array.mem_toList_iff.2 hx)
        simp; omega
      simp [this]
    clear hw1
    refine ⟨{ w1 with heap := w1.heap.setIfInBounds b (.map ((es.push { key := encM k, val := z, born := clock }).modify es.size fun e => { e with val := v }) (clock + 1)) }, by simp [Instr.entryStore, MapKept.run_getObj_map hb1, asInt, asIntOf, hfind, run_setObj_map _ hb1, Result.andThen], But.of_set _ _ _, ⟨_, _, (heap_set hb1).1, stamped_modify hs' _ _ (fun _ _ => rfl) (fun _ _ _ => rfl), ?_⟩⟩
    rw [Array.toList_modify, Array.toList_push]
    have : (es.toList ++ [({ key := encM k, val := z, born := clock } : MapEntry)]).modify es.size (fun e => { e with val := v }) = es.toList ++ [{ key := encM k, val := v, born := clock }] := by
      have hlen : es.size = es.toList.length := by simp
      rw [hlen]
      exact modify_last _ _ _
    rw [this]; simp [hl]
  · rw [hk] at h4; cases h4
end
end Go.Proofs.YtkffhgiiejbnaaaGreat.Ms
