import Derived.Test.YtkffhgiiejbnaaaGreatZEncE
import Derived.Test.YtkffhgiiejbnaaaGreatZFun
import Derived.Test.YtkffhgiiejbnaaaGreatZClo
set_option maxRecDepth 100000
set_option maxHeartbeats 400000
set_option linter.unusedVariables false
set_option linter.unusedSimpArgs false
set_option linter.unnecessarySimpa false
namespace Go.Proofs.YtkffhgiiejbnaaaGreat.En
open Go.Shelf Go.RowKit YtkffhgiiejbnaaaGreatW.PrintWords YtkffhgiiejbnaaaGreatW.PrintLast YtkffhgiiejbnaaaGreatW.PrintMore Rf Aid Mp Hp Bn Tk Vc Rg Go.Proofs.YtkffhgiiejbnaaaGreat.Fn
def encI (x : Int) : Value := .int .i64 x
theorem idxI (A : Option Addr) (c : Nat) (l : List Int) (g : Nat) (lb : Array Value) (p : Int → Bool) (eg : ∀ args w, (callFunc g args).run Tryz.prog w = .ok (.enter g args) w) (w : World) (hr : Kd.C (Kd.int .i64) w A l.length l) (hl : l.length ≤ 9223372036854775807)
  (hp : ∀ W, Below w.heap.size w W → ∀ x ∈ l, Calls Tryz.prog g (#[encI x] ++ lb) W fun e W' => e = .returned (.bool (p x)) ∧ Below W.heap.size W W') :
  Calls Tryz.prog 59 #[.slice A l.length c, .func (.func g) #[] lb] w fun e w' => e = .returned (.int .i64 (ix (l.findIdx? p))) ∧ Below w.heap.size w w' := by
 have HR := As.mk hr
 have HP := As.mk hp
 clear hr hp
 obtain ⟨R, hR⟩ : ∃ R, l.findIdx? p = R := ⟨_, rfl⟩
 have HF0 := As.mk (show ((l.drop 0).findIdx? p).map (0 + ·) = R by rw [List.drop_zero, ← hR]; simp)
 rw [hR]
 clear hR
 go_enter Tryz.func59, Tryz.ntmps59
 go_wp2
 go_loopg [5, 8] l.length (fun k _ v w' => ∃ (i : Nat), v = .int .i64 i ∧ i ≤ l.length ∧ As (((l.drop i).findIdx? p).map (i + ·) = R) ∧ As (l.length - i ≤ k) ∧ As (Below w.heap.size w w'))
 case atStart => exact ⟨0, rfl, Nat.zero_le _, HF0, ⟨by omega⟩, ⟨Below.refl _ _⟩⟩
 case round =>
  clear HF0
  obtain ⟨i, rfl, hi, HF, HK, HB⟩ := hrel
  by_cases hlt : i < l.length
  ·obtain ⟨k1, rfl⟩ : ∃ k1, gk = k1 + 1 := ⟨gk - 1, by have := HK.out; omega⟩
   obtain ⟨ad, rfl, x0⟩ := rd_at (Kd.C_below HR.out HB.out) (List.getElem?_eq_getElem hlt)
   have hltI : (i : Int) < l.length := by omega
   have HC := As.mk (HP.out _ HB.out l[i] (List.getElem_mem hlt))
   have HS := As.mk ((find_step p l i hlt).symm.trans HF.out)
   clear HF
   unfold encI at HC
   generalize l[i] = x at *
   cases hq : p x with
   | true =>
    rw [hq] at HC HS
    have HE := As.mk ((if_pos rfl).symm.trans HS.out)
    clear HS
    go_wp2_with (go_at_fn g; refine HC.out.mono ?_; rintro e w1 ⟨rfl, hb⟩)
    go_ret
    exact ⟨by rw [← HE.out]; rfl, bt_ HB.out hb⟩
   | false =>
    rw [hq] at HC HS
    have HE := As.mk ((if_neg (by decide)).symm.trans HS.out)
    clear HS
    go_wp2_with (go_at_fn g; refine HC.out.mono ?_; rintro e w1 ⟨rfl, hb⟩; have HB1 := As.mk (bt_ HB.out hb); clear hb HB)
    go_roundg k1
    case measure => omega
    case rel => exact ⟨i + 1, by go_num, by omega, HE, ⟨by have := HK.out; omega⟩, HB1⟩
  ·obtain rfl : i = l.length := by omega
   have HE := As.mk ((find_end p l l.length (Nat.le_refl _)).symm.trans HF.out)
   go_wp2
   go_ret
   exact ⟨by rw [← HE.out]; rfl, HB.out⟩
theorem conI (A : Option Addr) (c : Nat) (l : List Int) (g : Nat) (lb : Array Value) (p : Int → Bool) (eg : ∀ args w, (callFunc g args).run Tryz.prog w = .ok (.enter g args) w) (w : World) (hr : Kd.C (Kd.int .i64) w A l.length l) (hl : l.length ≤ 9223372036854775807)
  (hp : ∀ W, Below w.heap.size w W → ∀ x ∈ l, Calls Tryz.prog g (#[encI x] ++ lb) W fun e W' => e = .returned (.bool (p x)) ∧ Below W.heap.size W W') :
  Calls Tryz.prog 54 #[.slice A l.length c, .func (.func g) #[] lb] w fun e w' => e = .returned (.bool (l.findIdx? p).isSome) ∧ Below w.heap.size w w' := by
 have HI := As.mk (idxI A c l g lb p eg w hr hl hp)
 clear hr hp hl
 cases hR : l.findIdx? p with
 | none =>
  rw [hR] at HI
  unfold ix at HI
  simp only at HI
  clear hR
  go_enter Tryz.func54, Tryz.ntmps54
  go_wp2_with (go_at_call 59; refine HI.out.mono ?_; rintro e w1 ⟨rfl, hb⟩)
  go_ret
  exact ⟨rfl, hb⟩
 | some i =>
  rw [hR] at HI
  unfold ix at HI
  simp only at HI
  clear hR
  go_enter Tryz.func54, Tryz.ntmps54
  go_wp2_with (go_at_call 59; refine HI.out.mono ?_; rintro e w1 ⟨rfl, hb⟩)
  go_ret
  exact ⟨by simp, hb⟩
theorem cloneI (A : Option Addr) (c : Nat) (l : List Int) (w : World) (hr : Kd.C (Kd.int .i64) w A l.length l) (hl : l.length ≤ 200000000) :
  Calls Tryz.prog 58 #[.slice A l.length c] w fun e w' => ∃ A' c', e = .returned (.slice A' l.length c') ∧ Kd.C (Kd.int .i64) w' A' l.length l ∧ l.length ≤ c' ∧ Below w.heap.size w w' := by
 have HR := As.mk hr
 clear hr
 have q22 : ∀ (w : World) (a : Option Addr) (n c n' c' : Nat), (binOp .eql 41 (.slice a n c) (.slice none n' c')).run Tryz.prog w = .ok (.bool a.isNone) w := fun w a n c n' c' => Lib.run_eql_slice_nil w _ _ a n c n' c' Tryz.underlying41
 cases A with
 | none =>
  have h0 : l.length = 0 := by
   rcases Nat.eq_zero_or_pos l.length with h | h
   ·exact h
   ·obtain ⟨ad, e, _⟩ := HR.out.2.2 h; cases e
  obtain rfl : l = [] := List.eq_nil_of_length_eq_zero h0
  go_enter Tryz.func58, Tryz.ntmps58
  go_wp2
  go_ret
  exact ⟨none, 0, rfl, HR.out, Nat.le_refl _, Below.refl _ _⟩
 | some ad =>
  go_enter Tryz.func58, Tryz.ntmps58
  go_wp2_with ((with_reducible refine gate_builtin (b := .append) (xs := #[.tmp 5, .tmp 6]) rfl ?_); at_builtin; refine Kd.R_append_rows (Kd.int .i64) (Rr := (Kd.int .i64).K w) (w0 := w) w.heap.size rfl (.tmp 5) (.tmp 6) 41 3 (.int .i64 0) 8 rfl Tryz.underlying41 info3 rfl (by decide) (by omega) (.slice (some ⟨w.heap.size, 0, none⟩) 0 0) [] l (some ad) l.length c (fun _ => True) (fun _ => False) (by rfl) (by rfl) ?q1 ?q2 ?q3 (fun _ hk => hk.elim) (fun _ _ => trivial) ?q4 ?q5 ?q6 ?_)
  case q1 => exact ⟨fun _ _ => trivial, [], World.ownsRow_made w #[] 0 (Nat.le_refl _) (Nat.zero_le _) (by simp), Reps.none _ _⟩
  case q2 => exact HR.out.imp_ (below_alloc (Below.refl _ _) _) (fun _ _ h => h)
  case q3 => intro x cs hk; exact hk
  case q4 => exact below_alloc (Below.refl _ _) _
  case q5 => simp
  case q6 => simp; omega
  intro v1 w1 ho hb hg hat
  obtain ⟨A1, c1, rfl, hc1, hr1⟩ := Kd.R_reads ho
  have HR1 := As.mk hr1
  have HB1 := As.mk hb
  clear ho hb hg hat hr1
  go_wp2
  go_ret
  exact ⟨A1, c1, rfl, HR1.out, hc1, HB1.out⟩
end Go.Proofs.YtkffhgiiejbnaaaGreat.En
namespace Go.Proofs.YtkffhgiiejbnaaaGreat.En
open Go.Shelf Go.RowKit YtkffhgiiejbnaaaGreatW.PrintWords YtkffhgiiejbnaaaGreatW.PrintLast YtkffhgiiejbnaaaGreatW.PrintMore Rf Aid Mp Hp Bn Tk Vc Rg Go.Proofs.YtkffhgiiejbnaaaGreat.Fn
def pcsL (s : Sp) : Nat → List Int → List (List Int)
 | 0, _ => []
 | f + 1, xs => if xs = [] then [] else xs.take (cutN s xs) :: pcsL s f (xs.drop (cutN s xs))
theorem pcsF_map (s : Sp) : ∀ (f : Nat) (A : Option Addr) (c : Nat) (xs : List Int), (pcsF s f A c xs).map (·.2) = pcsL s f xs
 | 0, _, _, _ => rfl
 | f + 1, A, c, xs => by
  unfold pcsF pcsL
  by_cases h0 : xs = []
  ·rw [if_pos h0, if_pos h0]; rfl
  ·rw [if_neg h0, if_neg h0, List.map_cons, pcsF_map s f]
def tokL (s : Sp) (xs : List Int) : List Int := (pcsL s xs.length xs).flatMap (pieceT s)
theorem tokP_eq (s : Sp) (A : Option Addr) (c : Nat) (xs : List Int) : tokP s (pcsF s xs.length A c xs) = tokL s xs := by
 unfold tokP tokL
 rw [← pcsF_map s xs.length A c xs, List.flatMap_map]
def wrongF (s : Sp) (xs : List Int) : Option Nat := xs.findIdx? (fun n => !rightP s n)
theorem wrongF_none {s : Sp} {xs : List Int} (h : wrongF s xs = none) : ∀ x ∈ xs, rightP s x = true := by
 intro x hx
 have := List.findIdx?_eq_none_iff.1 h x hx
 simpa using this
def itemsE (s : Sp) (xs : List Int) : List Int × Int × Int :=
 if 4000 < xs.length then ([], 0, 3) else match wrongF s xs with | some i => ([], (i : Int), 2) | none => (tokL s xs, (xs.length : Int), 0)
theorem cloItems {W : World} {b v : Nat} {s : Sp} (hv : VocAt W v s) (hc : W.cell? ⟨b, 0, none⟩ = some (.pointer (some ⟨v, 0, none⟩))) (n : Int) :
  Calls Tryz.prog 60 (#[encI n] ++ #[.pointer (some ⟨b, 0, none⟩)]) W fun e W' => e = .returned (.bool (!rightP s n)) ∧ Below W.heap.size W W' := by
 have H := As.mk hv
 clear hv
 unfold encI
 show Calls Tryz.prog 60 #[.int .i64 n, .pointer (some ⟨b, 0, none⟩)] W _
 go_enter Tryz.func60, Tryz.ntmps60
 go_wp2_with (go_at_call 56; refine (right_any H.out n).mono ?_; rintro e w1 ⟨rfl, rfl⟩)
 go_ret
 exact ⟨rfl, Below.refl _ _⟩
theorem cloPieces {W : World} {b v : Nat} {s : Sp} (hv : VocAt W v s) (hc : W.cell? ⟨b, 0, none⟩ = some (.pointer (some ⟨v, 0, none⟩))) (n : Int) :
  Calls Tryz.prog 55 (#[encI n] ++ #[.pointer (some ⟨b, 0, none⟩)]) W fun e W' => e = .returned (.bool (!rightP s n)) ∧ Below W.heap.size W W' := by
 have H := As.mk hv
 clear hv
 unfold encI
 show Calls Tryz.prog 55 #[.int .i64 n, .pointer (some ⟨b, 0, none⟩)] W _
 go_enter Tryz.func55, Tryz.ntmps55
 go_wp2_with (go_at_call 56; refine (right_any H.out n).mono ?_; rintro e w1 ⟨rfl, rfl⟩)
 go_ret
 exact ⟨rfl, Below.refl _ _⟩
theorem box_of (w : World) (v : Value) (t : Nat) : (w.alloc (.cells #[v] t (0, 0))).cell? ⟨w.heap.size, 0, none⟩ = some v := cell_of0 (Go.MapKept.heap_alloc w (.cells #[v] t (0, 0))).1
theorem items_any {w : World} {v : Nat} {s : Sp} (hv : VocAt w v s) (hs : SpOk s) {A : Option Addr} {c : Nat} {xs : List Int} (hr : Kd.C (Kd.int .i64) w A xs.length xs) (hc : xs.length ≤ c) (hl : xs.length ≤ 200000000) :
  Calls Tryz.prog 18 #[.pointer (some ⟨v, 0, none⟩), .slice A xs.length c] w fun e w' => ∃ sv, e = .returned (.tuple #[sv, .int .i64 (itemsE s xs).2.1, .int .i64 (itemsE s xs).2.2]) ∧ Kd.R (Kd.int .i64) 3 w' w.heap.size (fun _ => True) sv (itemsE s xs).1 ∧ Below w.heap.size w w' := by
 have HB := As.mk (below_alloc (Below.refl w.heap.size w) (.cells #[.pointer (some ⟨v, 0, none⟩)] 30))
 have c0 := box_of w (.pointer (some ⟨v, 0, none⟩)) 30
 have b0 := blk_lt (Go.MapKept.heap_alloc w (.cells #[.pointer (some ⟨v, 0, none⟩)] 30 (0, 0))).1
 have HL := As.mk hl
 have HC := As.mk hc
 have HS := As.mk hs
 by_cases hgt : 4000 < xs.length
 ·have HE := As.mk (show itemsE s xs = ([], 0, 3) by unfold itemsE; rw [if_pos hgt])
  have hg : (4000 : Int) < (xs.length : Int) := by omega
  rw [HE.out]
  clear hv hs hr hc hl
  go_enter Tryz.func18, Tryz.ntmps18
  go_wp2
  go_ret3
  exact ⟨_, rfl, Kd.R_nil _ _ _ _ _, HB.out⟩
 ·have hg : ¬ (4000 : Int) < (xs.length : Int) := by omega
  have hi := idxI A c xs 60 #[.pointer (some ⟨w.heap.size, 0, none⟩)] (fun n => !rightP s n) (enters_of Tryz.func60 (by kernel_rfl) rfl) (w.alloc (.cells #[.pointer (some ⟨v, 0, none⟩)] 30)) (Kd.C_below hr HB.out) (by omega)
   (fun W hW x hx => cloItems (hv.below (HB.out.trans (hW.mono HB.out.size))) (pw_cell_below hW c0) x)
  have HI := As.mk hi
  have HR := As.mk hr
  have HV := As.mk hv
  cases hw : wrongF s xs with
  | some i =>
   have HE := As.mk (show itemsE s xs = ([], (i : Int), 2) by unfold itemsE; rw [if_neg hgt, hw])
   unfold wrongF at hw
   rw [hw] at HI
   unfold ix at HI
   simp only at HI
   rw [HE.out]
   have hi0 : ¬ (i : Int) < 0 := by omega
   clear hv hs hr hc hl hi hw
   go_enter Tryz.func18, Tryz.ntmps18
   go_wp2_with (go_at_call 59; refine HI.out.mono ?_; rintro e w1 ⟨rfl, hb⟩; have HB1 := As.mk (HB.out.trans (hb.mono HB.out.size)); clear hb)
   go_ret3
   exact ⟨_, rfl, Kd.R_nil _ _ _ _ _, HB1.out⟩
  | none =>
   have HE := As.mk (show itemsE s xs = (tokL s xs, (xs.length : Int), 0) by unfold itemsE; rw [if_neg hgt, hw])
   have HRI := As.mk (wrongF_none hw)
   unfold wrongF at hw
   rw [hw] at HI
   unfold ix at HI
   simp only at HI
   rw [HE.out]
   clear hv hs hr hc hl hi hw
   go_enter Tryz.func18, Tryz.ntmps18
   go_wp2_with (first
    | (go_at_call 59; refine HI.out.mono ?_; rintro e w1 ⟨rfl, hb⟩; have c1 := pw_cell_below hb c0; have HB1 := As.mk (HB.out.trans (hb.mono HB.out.size)); clear hb)
    | (go_at_call 61; refine (tokens_any (HV.out.below HB1.out) HS.out (Kd.C_below HR.out HB1.out) HC.out HRI.out HL.out).mono ?_; rintro e w2 ⟨sv, rfl, hr2, hb2⟩; rw [tokP_eq] at hr2; have HR2 := As.mk (Kd.R_lower hr2 HB1.out.size); have HB2 := As.mk (HB1.out.trans (hb2.mono HB1.out.size)); clear hr2 hb2))
   go_ret3
   exact ⟨_, rfl, HR2.out, HB2.out⟩
end Go.Proofs.YtkffhgiiejbnaaaGreat.En
