/- All the special tokens of a set; the reference's check: no condition. -/
import Derived.Test.YtphdbombgljamaaRendRef
import Derived.Test.YtphdbombgljamaaMarkParses
import Derived.Test.YtphdbombgljamaaRfx6
namespace Go.Proofs.Ytphdbombgljamaa.Mk
open Go.RowKit Go.Proofs.YtphdbombgljamaaW.PrintWords Go.Proofs.YtphdbombgljamaaW.PrintLast Go.Proofs.YtphdbombgljamaaW.PrintMore Go.Proofs.Ytphdbombgljamaa.Rf Go.Proofs.Ytphdbombgljamaa.Aid Go.Proofs.Ytphdbombgljamaa.Mp
set_option linter.unusedVariables false
set_option linter.unusedSimpArgs false
set_option maxHeartbeats 400000

/-! ### Clone, All -/
set_option maxRecDepth 100000 in
theorem cloneSp_any (A : Option Addr) (c : Nat) (l : List Sp) (w : World) (hr : Kd.C kSp w A l.length l) (hl : l.length ≤ 1000) :
    Calls Try.prog 47 #[.slice A l.length c] w fun e w' => ∃ A' c', e = .returned (.slice A' l.length c') ∧ Kd.C kSp w' A' l.length l ∧ Below w.heap.size w w' := by
  have HR := As.mk hr
  clear hr
  have q22 : ∀ (w : World) (a : Option Addr) (n c n' c' : Nat), (binOp .eql 22 (.slice a n c) (.slice none n' c')).run Try.prog w = .ok (.bool a.isNone) w := fun w a n c n' c' => Lib.run_eql_slice_nil w _ _ a n c n' c' Try.underlying22
  cases A with
  | none =>
    have h0 : l.length = 0 := by
      rcases Nat.eq_zero_or_pos l.length with h | h
      · exact h
      · obtain ⟨ad, e, _⟩ := HR.out.2.2 h; cases e
    obtain rfl : l = [] := List.eq_nil_of_length_eq_zero h0
    go_enter Try.func47, Try.ntmps47
    go_wp2
    go_ret
    exact ⟨none, 0, rfl, HR.out, Below.refl _ _⟩
  | some ad =>
    go_enter Try.func47, Try.ntmps47
    go_wp2_with ((with_reducible refine gate_builtin (b := .append) (xs := #[.tmp 5, .tmp 6]) rfl ?_); at_builtin; refine Kd.R_append_rows kSp (Rr := kSp.K w) (w0 := w) w.heap.size rfl (.tmp 5) (.tmp 6) 22 52 (.agg #[.int .i64 0, .string ⟨#[]⟩]) 24 rfl Try.underlying22 info_sp rfl (by decide) (by omega) (.slice (some ⟨w.heap.size, 0, none⟩) 0 0) [] l (some ad) l.length c (fun _ => True) (fun _ => False) (by rfl) (by rfl) ?q1 ?q2 ?q3 (fun _ hk => hk.elim) (fun _ _ => trivial) ?q4 ?q5 ?q6 ?_)
    case q1 => exact ⟨fun _ _ => trivial, [], World.ownsRow_made w #[] 0 (Nat.le_refl _) (Nat.zero_le _) (by simp), Reps.none _ _⟩
    case q2 => exact HR.out.imp_ (below_alloc (Below.refl _ _) _) (fun _ _ h => h)
    case q3 => intro x cs hk; obtain rfl := k52_open hk; exact k52_mkM _ _ _ x
    case q4 => exact below_alloc (Below.refl _ _) _
    case q5 => simp
    case q6 => simp; omega
    intro v1 w1 ho hb hg hat
    obtain ⟨A1, c1, rfl, hc1, hr1⟩ := Kd.R_reads ho
    have HR1 := As.mk hr1
    have HB1 := As.mk hb
    clear ho hb hg hat hr1
    go_wp2
    go_ret
    exact ⟨A1, c1, rfl, HR1.out, HB1.out⟩
theorem all_nil (w : World) : Calls Try.prog 28 #[.pointer none] w fun e w' => e = .returned (.slice none 0 0) ∧ w = w' := by
  go_enter Try.func28, Try.ntmps28
  go_wp2
  go_ret
  exact ⟨rfl, rfl⟩
theorem all_any {p : Nat} {S : List Sp} {w : World} (h : SetAt w p S) :
    Calls Try.prog 28 #[.pointer (some ⟨p, 0, none⟩)] w fun e w' => ∃ A' c', e = .returned (.slice A' S.length c') ∧ Kd.C kSp w' A' S.length S ∧ Below w.heap.size w w' := by
  obtain ⟨A, c, r1, r2, r3⟩ := h.rows
  have HC := As.mk (cloneSp_any A c S w r3 (by have := h.few; omega))
  clear h r3
  go_enter Try.func28, Try.ntmps28
  go_wp2_with (go_at_call 47; refine HC.out.mono ?_; rintro e w1 ⟨A1, c1, rfl, h1, h2⟩; have H1 := As.mk h1; have H2 := As.mk h2; clear h1 h2)
  go_ret
  exact ⟨A1, c1, rfl, H1.out, H2.out⟩

/-! ### Check -/
def twice (S : List Sp) (x : Sp) : Bool := S.any (fun y => decide (y.f0 = x.f0) || decide (y.f1 = x.f1))
theorem twice_is (S : List Sp) (x : Sp) : ((idxI S x.f0).isSome || (idx S x.f1).isSome) = twice S x := by
  unfold idxI idx twice
  rw [List.findIdx?_isSome, List.findIdx?_isSome]
  induction S with
  | nil => rfl
  | cons a S ih =>
    simp only [List.any_cons]
    rw [← ih]
    cases decide (a.f0 = x.f0) <;> cases decide (a.f1 = x.f1) <;> simp
theorem tl_inj {s t : ByteArray} : s.toList = t.toList ↔ s = t := by
  constructor
  · intro h
    rw [ByteArray.toList_eq, ByteArray.toList_eq] at h
    cases s; cases t
    congr 1
    exact Array.toList_inj.1 h
  · rintro rfl; rfl
theorem check_inner (l : List Sp) (i : Nat) (hi : i < l.length) (hl : l.length ≤ 1000) (R : Option (Int × Int)) (B : Nat) (hB : ∀ k', B ≤ k' → ligatureref09_Check.l0 k' l ((i + 1 : Nat) : Int) = R) :
    ∀ (e k j : Nat), j ≤ i → i - j = e → e + 1 + B ≤ k → ligatureref09_Check.l1 k l i j = if twice ((l.take i).drop j) l[i] = true then some ((i : Int), 10) else R
  | 0, k, j, h0, h1, h2 => by
    obtain ⟨k, rfl⟩ : ∃ m, k = m + 1 := ⟨k - 1, by omega⟩
    have hw : wrap64 ((i : Int) + 1) = ((i + 1 : Nat) : Int) := (w64 (by omega) (by omega)).trans (by omega)
    simp only [ligatureref09_Check.l1]
    rw [if_neg (by omega), hw, hB k (by omega), List.drop_eq_nil_of_le (by simp; omega)]
    rfl
  | e + 1, k, j, h0, h1, h2 => by
    obtain ⟨k, rfl⟩ : ∃ m, k = m + 1 := ⟨k - 1, by omega⟩
    have hj : j < l.length := by omega
    have hw : wrap64 ((j : Int) + 1) = ((j + 1 : Nat) : Int) := (w64 (by omega) (by omega)).trans (by omega)
    have hjt : j < (l.take i).length := by simp; omega
    simp only [ligatureref09_Check.l1]
    rw [if_pos (by omega), if_pos (by omega), if_pos (by omega), if_pos (by omega), if_pos (by omega), rd_at hj, rd_at hi, List.drop_eq_getElem_cons hjt, List.getElem_take]
    by_cases e0 : (l[j]).f0 = (l[i]).f0
    · rw [if_pos e0, if_pos (by unfold twice; simp [e0])]
    · rw [if_neg e0]
      by_cases e1 : (l[j]).f1 = (l[i]).f1
      · rw [if_pos (tl_inj.2 e1), if_pos (by unfold twice; simp [e1])]
      · rw [if_neg (fun h => e1 (tl_inj.1 h)), hw, check_inner l i hi hl R B hB e k (j + 1) (by omega) (by omega) (by omega)]
        have : twice (l[j] :: (l.take i).drop (j + 1)) l[i] = twice ((l.take i).drop (j + 1)) l[i] := by
          unfold twice
          rw [List.any_cons, decide_eq_false e0, decide_eq_false e1]
          rfl
        rw [this]
theorem check_run (l : List Sp) (hl : l.length ≤ 1000) : ∀ (d k i : Nat), i ≤ l.length → i ≤ 32 → l.length - i = d → 40 * d + 1 ≤ k → ligatureref09_Check.l0 k l i = some (((newF (l.take i) (l.drop i) i).1 : Int), (newF (l.take i) (l.drop i) i).2)
  | 0, k, i, h0, h1, h2, h3 => by
    obtain ⟨k, rfl⟩ : ∃ m, k = m + 1 := ⟨k - 1, by omega⟩
    simp only [ligatureref09_Check.l0]
    rw [if_neg (by omega), List.drop_eq_nil_of_le (by omega)]
    obtain rfl : i = l.length := by omega
    rfl
  | d + 1, k, i, h0, h1, h2, h3 => by
    obtain ⟨k, rfl⟩ : ∃ m, k = m + 2 := ⟨k - 2, by omega⟩
    have hlt : i < l.length := by omega
    simp only [ligatureref09_Check.l0]
    rw [if_pos (by omega), if_pos (by omega), rd_at hlt, List.drop_eq_getElem_cons hlt]
    have ht : l.take i ++ [l[i]] = l.take (i + 1) := (List.take_succ_eq_append_getElem hlt).symm
    have hx : goodB l[i] = decide (0 ≤ (l[i]).f0 ∧ (l[i]).f0 ≤ 1073741824 ∧ 1 ≤ (l[i]).f1.size ∧ (l[i]).f1.size ≤ 64) := rfl
    unfold newF
    rw [ht]
    have hin := fun R B hB => check_inner l i hlt hl R B hB i k 0 (by omega) (by omega)
    rw [List.drop_zero] at hin
    generalize l[i] = x at *
    have hj : (if x.f0 < 0 then ligatureref09_Check.j1 (k + 1) l (i : Int) true else if x.f0 > 1073741824 then ligatureref09_Check.j1 (k + 1) l (i : Int) true else if (x.f1.size : Int) < 1 then ligatureref09_Check.j1 (k + 1) l (i : Int) true else ligatureref09_Check.j1 (k + 1) l (i : Int) (decide ((x.f1.size : Int) > 64))) = ligatureref09_Check.j1 (k + 1) l (i : Int) (!goodB x) := by
      rw [hx]
      by_cases a : x.f0 < 0
      · rw [if_pos a, decide_eq_false (by omega)]; rfl
      · rw [if_neg a]
        by_cases b : x.f0 > 1073741824
        · rw [if_pos b, decide_eq_false (by omega)]; rfl
        · rw [if_neg b]
          by_cases e : (x.f1.size : Int) < 1
          · rw [if_pos e, decide_eq_false (by omega)]; rfl
          · rw [if_neg e]
            congr 1
            by_cases f : (x.f1.size : Int) > 64
            · rw [decide_eq_true f, decide_eq_false (by omega)]; rfl
            · rw [decide_eq_false f, decide_eq_true (by omega)]; rfl
    rw [hj]
    have hlen : (l.take i).length = i := by simp; omega
    simp only [ligatureref09_Check.j1]
    cases hg : goodB x with
    | false =>
      have he : addE (l.take i) x = 1 := by unfold addE; rw [hg, if_neg (by simp)]
      rw [he]
      rfl
    | true =>
      rw [if_neg (by simp)]
      by_cases h32 : i < 32
      · rw [if_neg (by omega)]
        have hn := hin _ (40 * d + 1) (fun k' hk' => check_run l hl d k' (i + 1) (by omega) (by omega) (by omega) hk') (by omega)
        rw [show ((0 : Nat) : Int) = 0 from rfl] at hn
        rw [hn]
        have he : addE (l.take i) x = if twice (l.take i) x = true then 10 else 0 := by
          unfold addE; rw [hg, if_pos rfl, hlen, if_pos h32, twice_is]
        rw [he]
        cases twice (l.take i) x <;> rfl
      · have he : addE (l.take i) x = 3 := by unfold addE; rw [hg, if_pos rfl, hlen, if_neg h32]
        rw [if_pos (by omega), he]
        rfl
theorem check_some (l : List Sp) (hl : l.length ≤ 1000) : ligatureref09_Check.f (40 * l.length + 1) l = some (((newP l).1 : Int), (newP l).2) := by
  unfold ligatureref09_Check.f newP
  have := check_run l hl l.length (40 * l.length + 1) 0 (by omega) (by omega) (by omega) (by omega)
  simpa using this
theorem check_any' (A : Option Addr) (c : Nat) (l : List Sp) (w : World) (hr : Kd.C kSp w A l.length l) (hc : l.length ≤ c) (hl : l.length ≤ 1000) :
    Calls Try.prog 25 #[.slice A l.length c] w fun e w' => e = .returned (.tuple #[.int .i64 (newP l).1, .int .i64 (newP l).2]) ∧ Drawn0 w w' :=
  ligatureref09_Check.calls _ A c l _ _ w hr hc (check_some l hl)
end Go.Proofs.Ytphdbombgljamaa.Mk
