/- The document's example for special tokens; no condition. -/
import Derived.Test.YtphdbombgljamaaMarkRef
namespace Go.Proofs.Ytphdbombgljamaa.Mk
open Go.RowKit Go.Proofs.YtphdbombgljamaaW.PrintWords Go.Proofs.YtphdbombgljamaaW.PrintLast Go.Proofs.YtphdbombgljamaaW.PrintMore Go.Proofs.Ytphdbombgljamaa.Rf Go.Proofs.Ytphdbombgljamaa.Aid Go.Proofs.Ytphdbombgljamaa.Mp
set_option linter.unusedVariables false
set_option linter.unusedSimpArgs false
set_option maxHeartbeats 400000

theorem alloc_cell (W : World) (cs : List Value) (e j : Nat) (u : Value) (h : cs[j]? = some u) : (W.alloc (.cells cs.toArray e)).cell? ⟨W.heap.size, j, none⟩ = some u := by
  have : (W.alloc (.cells cs.toArray e)).heap[W.heap.size]? = some (.cells cs.toArray e) := by
    show (W.heap.push _)[W.heap.size]? = _
    rw [Array.getElem?_push, if_pos rfl]
  simp only [World.cell?, this]
  simpa using h
/-- A new row of numbers, read. -/
theorem C_ints (W : World) (e : Nat) (xs : List Int) (h : xs.length ≤ 9223372036854775807) : Kd.C (Kd.int .i64) (W.alloc (.cells (xs.map (Value.int .i64)).toArray e)) (some ⟨W.heap.size, 0, none⟩) xs.length xs := by
  refine ⟨rfl, h, fun _ => ⟨_, rfl, fun j p hj => ⟨[.int .i64 p], rfl, rfl, fun i u hu => ?_⟩⟩⟩
  have hi : i = 0 := by
    cases i with
    | zero => rfl
    | succ i => simp at hu
  subst hi
  simp only [List.getElem?_cons_zero, Option.some.injEq] at hu
  subst hu
  have e1 : (⟨W.heap.size, 0, none⟩ : Addr).add (j * 1 + 0) = ⟨W.heap.size, j, none⟩ := by rw [add_plain]; simp
  show (W.alloc _).cell? ((⟨W.heap.size, 0, none⟩ : Addr).add (j * 1 + 0)) = _
  rw [e1]
  exact alloc_cell W _ e j _ (by rw [List.getElem?_map, hj]; rfl)
theorem C_sps2 (W : World) (e : Nat) (x y : Sp) : Kd.C kSp (W.alloc (.cells #[.int .i64 x.f0, .string x.f1, .int .i64 y.f0, .string y.f1] e)) (some ⟨W.heap.size, 0, none⟩) 2 [x, y] := by
  refine ⟨rfl, by omega, fun _ => ⟨_, rfl, fun j p hj => ⟨[.int .i64 p.f0, .string p.f1], rfl, k52_mk _ p, fun i u hu => ?_⟩⟩⟩
  show (W.alloc (.cells ([.int .i64 x.f0, .string x.f1, .int .i64 y.f0, .string y.f1] : List Value).toArray e)).cell? ((⟨W.heap.size, 0, none⟩ : Addr).add (j * 2 + i)) = _
  rw [add_plain]
  refine alloc_cell W _ e _ _ ?_
  match j, i, hj, hu with
  | 0, 0, hj, hu => simp at hj hu; subst hj; subst hu; rfl
  | 0, 1, hj, hu => simp at hj hu; subst hj; subst hu; rfl
  | 1, 0, hj, hu => simp at hj hu; subst hj; subst hu; rfl
  | 1, 1, hj, hu => simp at hj hu; subst hj; subst hu; rfl
  | 0, i + 2, hj, hu => simp at hu
  | 1, i + 2, hj, hu => simp at hu
  | j + 2, i, hj, hu => simp at hj

theorem ints_any (xs ys : List Int) (A B : Option Addr) (c d : Nat) (w : World) (hr0 : Kd.C (Kd.int .i64) w A xs.length xs) (hc0 : xs.length ≤ c) (hr1 : Kd.C (Kd.int .i64) w B ys.length ys) (hc1 : ys.length ≤ d) (hl : xs.length ≤ 9223372036854775807) :
    Calls Try.prog 16 #[.slice A xs.length c, .slice B ys.length d] w fun e w' => e = .returned (.bool (decide (xs = ys))) ∧ Drawn w w' :=
  (ligatureref02_Ints.calls (xs.length + 1) A c xs B d ys _ w hr0 hc0 hr1 hc1 (ints_some xs ys hl)).mono fun e w' ⟨h1, h2⟩ => ⟨h1, ⟨h2.out⟩⟩

def exA : Sp := ⟨300, ⟨#[60]⟩⟩
def exB : Sp := ⟨301, ⟨#[60, 124]⟩⟩
theorem ex_new : newP [exA, exB] = (2, 0) := by kernel_rfl
theorem ex_parse : parseP [exA, exB] ⟨#[97, 60, 124, 98, 60]⟩ = [97, -2, 98, -1] := by kernel_rfl

set_option maxRecDepth 100000 in
theorem awake_any (w : World) : Calls Try.prog 12 #[] w fun e w' => e = .returned (.bool true) ∧ Below w.heap.size w w' := by
  go_enter Try.func12, Try.ntmps12
  go_wp2_with fail
  refine (new_any _ 2 [exA, exB] _ (C_sps2 w 52 exA exB) (by simp)).mono ?_
  rw [ex_new]
  rintro e w1 ⟨v, rfl, ⟨p, rfl, hs⟩, hb⟩
  have HB := As.mk (bt_ (below_alloc (Below.refl _ _) _) hb)
  have HS := As.mk hs
  clear hb hs
  go_wp2_with fail
  refine (parse_any HS.out ⟨#[97, 60, 124, 98, 60]⟩ (by show 5 ≤ _; omega)).mono ?_
  rw [ex_parse]
  rintro e w2 ⟨v, rfl, ho, hb⟩
  obtain ⟨A, c, rfl, hc, hr⟩ := Kd.R_reads ho
  have HB2 := As.mk (bt_ HB.out hb)
  have HR := As.mk hr
  have HC := As.mk hc
  clear hb ho HS HB hr hc
  go_wp2_with fail
  refine (ints_any [97, -2, 98, -1] [97, -2, 98, -1] A _ c 4 _ (Kd.C_below HR.out (below_alloc (Below.refl _ _) _)) HC.out (C_ints w2 3 [97, -2, 98, -1] (by simp)) (by simp) (by simp)).mono ?_
  rintro e w3 ⟨rfl, ⟨n, rfl⟩⟩
  go_wp2
  go_ret
  exact ⟨rfl, pw_below_drewN (below_alloc HB2.out _) _⟩
end Go.Proofs.Ytphdbombgljamaa.Mk
