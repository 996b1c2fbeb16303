import Derived.Test.YtkffhgiiejbnaaaGreatQMapS
import Derived.Test.YtkffhgiiejbnaaaGreatQHp
set_option linter.unusedVariables false
set_option linter.unusedSimpArgs false
namespace Go.Proofs.YtkffhgiiejbnaaaGreat.Tk
open Go.RowKit Go.Proofs.YtkffhgiiejbnaaaGreatW.PrintWords Go.Proofs.YtkffhgiiejbnaaaGreatW.PrintLast Go.Proofs.YtkffhgiiejbnaaaGreatW.PrintMore Go.Proofs.YtkffhgiiejbnaaaGreat.Rf Go.Proofs.YtkffhgiiejbnaaaGreat.Aid Go.Proofs.YtkffhgiiejbnaaaGreat.Mp
attribute [local go_sem] Aid.max_two Aid.min_two min2_mn max2_mx
set_option linter.unusedVariables false
set_option linter.unusedSimpArgs false
set_option maxHeartbeats 400000
structure Ent where
  f0 : ByteArray
  f1 : Int
  f2 : Int
def kEnt : Kd Ent := Kd.iso (Kd.pair Kd.string (Kd.pair (Kd.int .i64) (Kd.int .i64))) (fun x : Ent => (x.f0, x.f1, x.f2))
theorem kEnt_open {w : World} {x : Ent} {cs : List Value} (h : kEnt.K w x cs) : cs = [.string x.f0, .int .i64 x.f1, .int .i64 x.f2] := by
  obtain ⟨c1, c2, rfl, h1, c3, c4, rfl, h2, h3⟩ := h
  have h1 : c1 = [.string x.f0] := h1
  have h2 : c3 = [.int .i64 x.f1] := h2
  have h3 : c4 = [.int .i64 x.f2] := h3
  rw [h1, h2, h3]; rfl
theorem kEnt_mkM (w : World) (base : Nat) (ok : Nat → Prop) (x : Ent) : kEnt.M w base ok x [.string x.f0, .int .i64 x.f1, .int .i64 x.f2] := ⟨[.string x.f0], [.int .i64 x.f1, .int .i64 x.f2], rfl, rfl, ⟨[.int .i64 x.f1], [.int .i64 x.f2], rfl, rfl, rfl⟩⟩
theorem info_ent : (Tryz.prog.info? 223).map (fun i => (i.zero, i.size, i.bytes)) = some (some (.agg #[.string ⟨#[]⟩, .int .i64 0, .int .i64 0]), 3, 32) := by kernel_rfl
theorem at_ent {w : World} {A : Option Addr} {n : Nat} {E : List Ent} (h : Kd.C kEnt w A n E) {i : Nat} (hi : i < E.length) : ∃ ad, A = some ad ∧ w.cell? (ad.add (i * 3)) = some (.string (E[i]).f0) ∧ w.cell? ⟨(ad.add (i * 3)).block, (ad.add (i * 3)).off + 1, none⟩ = some (.int .i64 (E[i]).f1) ∧ w.cell? ⟨(ad.add (i * 3)).block, (ad.add (i * 3)).off + 2, none⟩ = some (.int .i64 (E[i]).f2) := by
  have hn : E.length = n := h.1
  obtain ⟨ad, c, e, _, hK, hc⟩ := Kd.C_get h ⟨⟨#[]⟩, 0, 0⟩ (i : Int) (by omega) (by omega)
  rw [Int.toNat_natCast, List.getD_eq_getElem?_getD, List.getElem?_eq_getElem hi] at hK
  have hc0 := kEnt_open hK
  subst hc0
  refine ⟨ad, e, ?_, ?_, ?_⟩
  · exact hc 0 _ rfl
  · rw [← add_field ad _ 1 (by omega)]; exact hc 1 _ rfl
  · rw [← add_field ad _ 2 (by omega)]; exact hc 2 _ rfl
def idxB (E : List Ent) (s : ByteArray) : Option Nat := E.findIdx? (fun x => decide (x.f0 = s))
def bytl (E : List Ent) : List (ByteArray × Value) := E.zipIdx.map (fun p => (p.1.f0, .int .i64 (p.2 : Int)))
def pairl (M : List Ent) : List ((Int × Int) × Value) := (M.zipIdx 256).map (fun p => ((p.1.f1, p.1.f2), .int .i64 (p.2 : Int)))
def pairP (E : List Ent) (a b : Int) : Option Nat := ((E.drop 256).findIdx? (fun x => decide ((x.f1, x.f2) = (a, b)))).map (fun i => 256 + i)
theorem get_zipE {κ : Type} [DecidableEq κ] (f : Ent → κ) (k : κ) : ∀ (S : List Ent) (n : Nat), get? ((S.zipIdx n).map (fun p => (f p.1, Value.int .i64 (p.2 : Int)))) k = (S.findIdx? (fun x => decide (f x = k))).map (fun i => .int .i64 ((n + i : Nat) : Int))
  | [], n => rfl
  | x :: S, n => by
    rw [List.zipIdx_cons, List.map_cons, get?_cons, List.findIdx?_cons]
    by_cases h : f x = k
    · simp [h]
    · simp only [h, if_false, decide_false, Bool.false_eq_true]
      rw [get_zipE f k S (n + 1), Option.map_map]
      congr 1; funext i; simp only [Function.comp]; congr 2; omega
theorem get_bytl (E : List Ent) (s : ByteArray) : get? (bytl E) s = (idxB E s).map (fun i => .int .i64 (i : Int)) := by
  have := get_zipE (fun x => x.f0) s E 0
  simpa [bytl, idxB] using this
theorem get_pairl (E : List Ent) (a b : Int) : get? (pairl (E.drop 256)) (a, b) = (pairP E a b).map (fun i => .int .i64 (i : Int)) := by
  have := get_zipE (fun x => (x.f1, x.f2)) (a, b) (E.drop 256) 256
  unfold pairl pairP
  rw [this, Option.map_map]
  rfl
structure TabAt (w : World) (p : Nat) (E : List Ent) : Prop where
  many : 256 ≤ E.length ∧ E.length ≤ 1000
  small : ∀ x ∈ E, 1 ≤ x.f0.size ∧ x.f0.size ≤ 64
  rows : ∃ A c, w.cell? ⟨p, 0, none⟩ = some (.slice A E.length c) ∧ E.length ≤ c ∧ Kd.C kEnt w A E.length E
  bytes : ∃ b, w.cell? ⟨p, 1, none⟩ = some (.map (some b)) ∧ MapIs encStr w b (bytl E)
  pairs : ∃ b, w.cell? ⟨p, 2, none⟩ = some (.map (some b)) ∧ Ms.MapIs w b (pairl (E.drop 256))
theorem TabAt.below {w w' : World} {p : Nat} {E : List Ent} (h : TabAt w p E) (hb : Below w.heap.size w w') : TabAt w' p E := by
  obtain ⟨h1, h2, ⟨A, c, r1, r2, r3⟩, ⟨b, i1, i2⟩, ⟨b', t1, t2⟩⟩ := h
  exact ⟨h1, h2, ⟨A, c, pw_cell_below hb r1, r2, Kd.C_below r3 hb⟩, ⟨b, pw_cell_below hb i1, i2.of_block (hb.block _ i2.lt)⟩, ⟨b', pw_cell_below hb t1, t2.of_block (hb.block _ t2.lt)⟩⟩
theorem len_raw (p n c : Nat) (A : Option Addr) (w : World) (hl : w.cell? ⟨p, 0, none⟩ = some (.slice A n c)) : Calls Tryz.prog 121 #[.pointer (some ⟨p, 0, none⟩)] w fun e w' => e = .returned (.int .i64 n) ∧ w = w' := by
  go_enter Tryz.func121, Tryz.ntmps121
  go_wp2
  go_ret
  exact ⟨rfl, rfl⟩
theorem has_raw (p n c : Nat) (A : Option Addr) (id : Int) (w : World) (hl : w.cell? ⟨p, 0, none⟩ = some (.slice A n c)) : Calls Tryz.prog 135 #[.pointer (some ⟨p, 0, none⟩), .int .i64 id] w fun e w' => e = .returned (.bool (decide (0 ≤ id ∧ id < (n : Int)))) ∧ w = w' := by
  by_cases h0 : 0 ≤ id
  · by_cases h1 : id < (n : Int)
    · rw [decide_eq_true ⟨h0, h1⟩]
      go_enter Tryz.func135, Tryz.ntmps135
      go_wp2_with (go_at_call 121; refine (len_raw p n c A _ hl).mono ?_; rintro e w' ⟨rfl, rfl⟩)
      go_ret
      exact ⟨rfl, rfl⟩
    · rw [decide_eq_false (by omega)]
      have hb : decide (id < (n : Int)) = false := decide_eq_false h1
      go_enter Tryz.func135, Tryz.ntmps135
      go_wp2_with (go_at_call 121; refine (len_raw p n c A _ hl).mono ?_; rintro e w' ⟨rfl, rfl⟩)
      go_ret
      exact ⟨rfl, rfl⟩
  · rw [decide_eq_false (by omega)]
    go_enter Tryz.func135, Tryz.ntmps135
    go_wp2
    go_ret
    exact ⟨rfl, rfl⟩
theorem pair_any {p : Nat} {E : List Ent} {w : World} (h : TabAt w p E) (a b : Int) : Calls Tryz.prog 182 #[.pointer (some ⟨p, 0, none⟩), .int .i64 a, .int .i64 b] w fun e w' => e = .returned (.tuple #[.int .i64 (((pairP E a b).getD 0 : Nat) : Int), .bool (pairP E a b).isSome]) ∧ w = w' := by
  obtain ⟨bm, i1, i2⟩ := h.pairs
  have hl := Ms.lookup_ok (mty := 225) (et := 3) Tryz.underlying225 i2 (a, b) (z := .int .i64 0) (by kernel_rfl)
  rw [get_pairl] at hl
  unfold Ms.encM at hl
  clear h i2
  cases hp : pairP E a b with
  | none =>
    rw [hp] at hl
    simp only [Option.map_none, Option.getD_none, Option.isSome_none] at hl
    clear hp
    go_enter Tryz.func182, Tryz.ntmps182
    go_wp2
    go_ret2
    exact ⟨rfl, rfl⟩
  | some k =>
    rw [hp] at hl
    simp only [Option.map_some, Option.getD_some, Option.isSome_some] at hl
    clear hp
    go_enter Tryz.func182, Tryz.ntmps182
    go_wp2
    go_ret2
    exact ⟨rfl, rfl⟩
end Go.Proofs.YtkffhgiiejbnaaaGreat.Tk
