import Derived.Test.YtkffhgiiejbnaaaGreatQEncE
import Derived.Test.YtkffhgiiejbnaaaGreatQFun
import Derived.Test.YtkffhgiiejbnaaaGreatQClo
import Derived.Test.YtkffhgiiejbnaaaGreatQ01
set_option linter.unusedVariables false
set_option linter.unusedSimpArgs false
set_option linter.unnecessarySimpa false
namespace Go.Proofs.YtkffhgiiejbnaaaGreat.En
open Go.Shelf Go.RowKit Go.Proofs.YtkffhgiiejbnaaaGreatW.PrintWords Go.Proofs.YtkffhgiiejbnaaaGreatW.PrintLast Go.Proofs.YtkffhgiiejbnaaaGreatW.PrintMore Go.Proofs.YtkffhgiiejbnaaaGreat.Rf Go.Proofs.YtkffhgiiejbnaaaGreat.Aid Go.Proofs.YtkffhgiiejbnaaaGreat.Mp Go.Proofs.YtkffhgiiejbnaaaGreat.Hp Go.Proofs.YtkffhgiiejbnaaaGreat.Bn Go.Proofs.YtkffhgiiejbnaaaGreat.Tk Go.Proofs.YtkffhgiiejbnaaaGreat.Vc Go.Proofs.YtkffhgiiejbnaaaGreat.Rg Go.Proofs.YtkffhgiiejbnaaaGreat.Fn
set_option linter.unusedVariables false
set_option linter.unusedSimpArgs false
set_option maxHeartbeats 400000
def encI (x : Int) : Value := .int .i64 x
theorem idxI (A : Option Addr) (c : Nat) (l : List Int) (g : Nat) (lb : Array Value) (p : Int → Bool) (eg : ∀ args w, (callFunc g args).run Tryz.prog w = .ok (.enter g args) w) (w : World) (hr : Kd.C (Kd.int .i64) w A l.length l) (hl : l.length ≤ 9223372036854775807)
    (hp : ∀ W, Below w.heap.size w W → ∀ x ∈ l, Calls Tryz.prog g (#[encI x] ++ lb) W fun e W' => e = .returned (.bool (p x)) ∧ Below W.heap.size W W') :
    Calls Tryz.prog 59 #[.slice A l.length c, .func (.func g) #[] lb] w fun e w' => e = .returned (.int .i64 (ix (l.findIdx? p))) ∧ Below w.heap.size w w' := by
  have HR := As.mk hr
  have HP := As.mk hp
  clear hr hp
  obtain ⟨R, hR⟩ : ∃ R, l.findIdx? p = R := ⟨_, rfl⟩
  have HF0 := As.mk (show ((l.drop 0).findIdx? p).map (0 + ·) = R by rw [List.drop_zero, ← hR]; simp)
  rw [hR]
  clear hR
  go_enter Tryz.func59, Tryz.ntmps59
  go_wp2
  go_loopg [5, 8] l.length (fun k _ v w' => ∃ (i : Nat), v = .int .i64 i ∧ i ≤ l.length ∧ As (((l.drop i).findIdx? p).map (i + ·) = R) ∧ As (l.length - i ≤ k) ∧ As (Below w.heap.size w w'))
  case atStart => exact ⟨0, rfl, Nat.zero_le _, HF0, ⟨by omega⟩, ⟨Below.refl _ _⟩⟩
  case round =>
    clear HF0
    obtain ⟨i, rfl, hi, HF, HK, HB⟩ := hrel
    by_cases hlt : i < l.length
    · obtain ⟨k1, rfl⟩ : ∃ k1, gk = k1 + 1 := ⟨gk - 1, by have := HK.out; omega⟩
      obtain ⟨ad, rfl, x0⟩ := rd_at (Kd.C_below HR.out HB.out) (List.getElem?_eq_getElem hlt)
      have hltI : (i : Int) < l.length := by omega
      have HC := As.mk (HP.out _ HB.out l[i] (List.getElem_mem hlt))
      have HS := As.mk ((find_step p l i hlt).symm.trans HF.out)
      clear HF
      unfold encI at HC
      generalize l[i] = x at *
      cases hq : p x with
      | true =>
        rw [hq] at HC HS
        have HE := As.mk ((if_pos rfl).symm.trans HS.out)
        clear HS
        go_wp2_with (go_at_fn g; refine HC.out.mono ?_; rintro e w1 ⟨rfl, hb⟩)
        go_ret
        exact ⟨by rw [← HE.out]; rfl, bt_ HB.out hb⟩
      | false =>
        rw [hq] at HC HS
        have HE := As.mk ((if_neg (by decide)).symm.trans HS.out)
        clear HS
        go_wp2_with (go_at_fn g; refine HC.out.mono ?_; rintro e w1 ⟨rfl, hb⟩; have HB1 := As.mk (bt_ HB.out hb); clear hb HB)
        go_roundg k1
        case measure => omega
        case rel => exact ⟨i + 1, by go_num, by omega, HE, ⟨by have := HK.out; omega⟩, HB1⟩
    · obtain rfl : i = l.length := by omega
      have HE := As.mk ((find_end p l l.length (Nat.le_refl _)).symm.trans HF.out)
      go_wp2
      go_ret
      exact ⟨by rw [← HE.out]; rfl, HB.out⟩
end Go.Proofs.YtkffhgiiejbnaaaGreat.En
namespace Go.Proofs.YtkffhgiiejbnaaaGreat.En
open Go.Shelf Go.RowKit Go.Proofs.YtkffhgiiejbnaaaGreatW.PrintWords Go.Proofs.YtkffhgiiejbnaaaGreatW.PrintLast Go.Proofs.YtkffhgiiejbnaaaGreatW.PrintMore Go.Proofs.YtkffhgiiejbnaaaGreat.Rf Go.Proofs.YtkffhgiiejbnaaaGreat.Aid Go.Proofs.YtkffhgiiejbnaaaGreat.Mp Go.Proofs.YtkffhgiiejbnaaaGreat.Hp Go.Proofs.YtkffhgiiejbnaaaGreat.Bn Go.Proofs.YtkffhgiiejbnaaaGreat.Tk Go.Proofs.YtkffhgiiejbnaaaGreat.Vc Go.Proofs.YtkffhgiiejbnaaaGreat.Rg Go.Proofs.YtkffhgiiejbnaaaGreat.Fn
set_option linter.unusedVariables false
set_option linter.unusedSimpArgs false
set_option maxHeartbeats 400000
def pcsL (s : Sp) : Nat → List Int → List (List Int)
  | 0, _ => []
  | f + 1, xs => if xs = [] then [] else xs.take (cutN s xs) :: pcsL s f (xs.drop (cutN s xs))
theorem pcsF_map (s : Sp) : ∀ (f : Nat) (A : Option Addr) (c : Nat) (xs : List Int), (pcsF s f A c xs).map (·.2) = pcsL s f xs
  | 0, _, _, _ => rfl
  | f + 1, A, c, xs => by
    unfold pcsF pcsL
    by_cases h0 : xs = []
    · rw [if_pos h0, if_pos h0]; rfl
    · rw [if_neg h0, if_neg h0, List.map_cons, pcsF_map s f]
def tokL (s : Sp) (xs : List Int) : List Int := (pcsL s xs.length xs).flatMap (pieceT s)
theorem tokP_eq (s : Sp) (A : Option Addr) (c : Nat) (xs : List Int) : tokP s (pcsF s xs.length A c xs) = tokL s xs := by
  unfold tokP tokL
  rw [← pcsF_map s xs.length A c xs, List.flatMap_map]
set_option maxRecDepth 100000 in
theorem items_nil (A : Option Addr) (n c : Nat) (w : World) : Calls Tryz.prog 18 #[.pointer none, .slice A n c] w fun e w' => e = .returned (.tuple #[.slice none 0 0, .int .i64 0, .int .i64 1]) ∧ Below w.heap.size w w' := by
  have HB := As.mk (below_alloc (Below.refl w.heap.size w) (.cells #[.pointer none] 30))
  go_enter Tryz.func18, Tryz.ntmps18
  go_wp2
  go_ret3
  exact ⟨rfl, HB.out⟩
set_option maxRecDepth 100000 in
theorem made_nil (A : Option Addr) (n c : Nat) (w : World) : Calls Tryz.prog 22 #[.pointer none, .slice A n c] w fun e w' => e = .returned (.slice none 0 0) ∧ Below w.heap.size w w' := by
  have HB := As.mk (below_alloc (Below.refl w.heap.size w) (.cells #[.pointer none] 30))
  go_enter Tryz.func22, Tryz.ntmps22
  go_wp2
  go_ret
  exact ⟨rfl, HB.out⟩
end Go.Proofs.YtkffhgiiejbnaaaGreat.En
namespace Go.Proofs.YtkffhgiiejbnaaaGreat.En
open Go.Shelf Go.RowKit Go.Proofs.YtkffhgiiejbnaaaGreatW.PrintWords Go.Proofs.YtkffhgiiejbnaaaGreatW.PrintLast Go.Proofs.YtkffhgiiejbnaaaGreatW.PrintMore Go.Proofs.YtkffhgiiejbnaaaGreat.Rf Go.Proofs.YtkffhgiiejbnaaaGreat.Aid Go.Proofs.YtkffhgiiejbnaaaGreat.Mp Go.Proofs.YtkffhgiiejbnaaaGreat.Hp Go.Proofs.YtkffhgiiejbnaaaGreat.Bn Go.Proofs.YtkffhgiiejbnaaaGreat.Tk Go.Proofs.YtkffhgiiejbnaaaGreat.Vc Go.Proofs.YtkffhgiiejbnaaaGreat.Rg Go.Proofs.YtkffhgiiejbnaaaGreat.Fn
set_option linter.unusedVariables false
set_option linter.unusedSimpArgs false
set_option maxHeartbeats 400000
theorem atP_none (s : ByteArray) : Mk.atP [] s = none := by
  unfold Mk.atP Mk.firstOf
  split <;> simp
theorem bytes_run (s : ByteArray) (hs : s.size ≤ 1000) : ∀ (d k i : Nat) (xs : List Int), i ≤ s.size → s.size - i = d → d < k → xs.length = i → mark_Bytes.l0 k s xs (s.size : Int) i = some (xs ++ Mk.parseF [] s d i)
  | 0, k, i, xs, h0, h1, h2, h3 => by
    obtain ⟨k, rfl⟩ : ∃ m, k = m + 1 := ⟨k - 1, by omega⟩
    simp only [mark_Bytes.l0]
    rw [if_neg (by omega)]
    simp [Mk.parseF]
  | d + 1, k, i, xs, h0, h1, h2, h3 => by
    obtain ⟨k, rfl⟩ : ∃ m, k = m + 1 := ⟨k - 1, by omega⟩
    have hlt : i < s.size := by omega
    have hw : wrap64 ((i : Int) + 1) = ((i + 1 : Nat) : Int) := (w64 (by omega) (by omega)).trans (by omega)
    have hb := bt_range s i
    have hwb : wrap64 (bt s (i : Int)) = bt s i := w64 (by omega) (by omega)
    simp only [mark_Bytes.l0]
    rw [if_pos (by omega), if_pos (by omega), if_pos (by omega), if_pos (by omega), hw, hwb, bytes_run s hs d k (i + 1) _ (by omega) (by omega) (by omega) (by simp; omega), Mk.parseF_byte hlt (atP_none _), List.append_assoc]
    rfl
theorem bytes_any (s : ByteArray) (w : World) (hs : s.size ≤ 1000) :
    Calls Tryz.prog 28 #[.string s] w fun e w' => ∃ v, e = .returned v ∧ Kd.R (Kd.int .i64) 3 w' w.heap.size (fun _ => True) v (Mk.parseP [] s) ∧ Below w.heap.size w w' :=
  mark_Bytes.calls (s.size + 1) s _ w (by
    unfold mark_Bytes.f Mk.parseP
    have := bytes_run s hs s.size (s.size + 1) 0 [] (by omega) (by omega) (by omega) rfl
    simpa using this)
theorem marks_nil (w : World) : Calls Tryz.prog 67 #[.pointer none] w fun e w' => e = .returned (.pointer none) ∧ w = w' := by
  go_enter Tryz.func67, Tryz.ntmps67
  go_wp2
  go_ret
  exact ⟨rfl, rfl⟩
theorem of_nil (s : ByteArray) (f : Value) (w : World) : Calls Tryz.prog 66 #[.pointer none, .string s, f] w fun e w' => e = .returned (.tuple #[.slice none 0 0, .int .i64 1]) ∧ w = w' := by
  go_enter Tryz.func66, Tryz.ntmps66
  go_wp2
  go_ret2
  exact ⟨rfl, rfl⟩
set_option maxRecDepth 100000 in
theorem text_nil (s : ByteArray) (w : World) : Calls Tryz.prog 23 #[.pointer none, .string s] w fun e w' => e = .returned (.tuple #[.slice none 0 0, .int .i64 1]) ∧ w = w' := by
  go_enter Tryz.func23, Tryz.ntmps23
  go_wp2_with (first
    | (go_at_call 67; refine (marks_nil _).mono ?_; rintro e w1 ⟨rfl, rfl⟩)
    | (go_at_call 66; refine (of_nil s _ _).mono ?_; rintro e w1 ⟨rfl, rfl⟩))
  go_ret2
  exact ⟨rfl, rfl⟩
set_option maxRecDepth 100000 in
theorem plain_nil (s : ByteArray) (w : World) : Calls Tryz.prog 24 #[.pointer none, .string s] w fun e w' => e = .returned (.tuple #[.slice none 0 0, .int .i64 1]) ∧ w = w' := by
  go_enter Tryz.func24, Tryz.ntmps24
  go_wp2_with (go_at_call 66; refine (of_nil s _ _).mono ?_; rintro e w1 ⟨rfl, rfl⟩)
  go_ret2
  exact ⟨rfl, rfl⟩
set_option maxRecDepth 100000 in
theorem of_any {w : World} {v : Nat} {sp : Sp} (hv : VocAt w v sp) (hsp : SpOk sp) (s : ByteArray) (hs : s.size ≤ 1000) (g : Nat) (first : Array Value) (eg : ∀ args w, (callFunc g args).run Tryz.prog w = .ok (.enter g args) w) {items : List Int} (hri : ∀ x ∈ items, rightP sp x = true) (hl : items.length ≤ 1000)
    (hp : Calls Tryz.prog g (first ++ #[.string s]) w fun e w' => ∃ pv, e = .returned pv ∧ Kd.R (Kd.int .i64) 3 w' w.heap.size (fun _ => True) pv items ∧ Below w.heap.size w w') :
    Calls Tryz.prog 66 #[.pointer (some ⟨v, 0, none⟩), .string s, .func (.func g) first #[]] w fun e w' => ∃ sv, e = .returned (.tuple #[sv, .int .i64 0]) ∧ Kd.R (Kd.int .i64) 3 w' w.heap.size (fun _ => True) sv (tokL sp items) ∧ Below w.heap.size w w' := by
  have HP := As.mk hp
  have HV := As.mk hv
  have HS := As.mk hsp
  have HRI := As.mk hri
  have hg : ¬ (4000 : Int) < (s.size : Int) := by omega
  clear hp hv hsp hri
  go_enter Tryz.func66, Tryz.ntmps66
  go_wp2_with (first
    | (go_at_call 61; refine (tokens_any (HV.out.below HB1.out) HS.out (Kd.R_reads' HR1.out).2.2 HC1.out HRI.out (by omega)).mono ?_; rintro e w2 ⟨sv, rfl, hr2, hb2⟩; rw [tokP_eq] at hr2; have HR2 := As.mk (Kd.R_lower hr2 HB1.out.size); have HB2 := As.mk (HB1.out.trans (hb2.mono HB1.out.size)); clear hr2 hb2)
    | (go_at_fn g; refine HP.out.mono ?_; rintro e w1 ⟨pv, rfl, hr1, hb1⟩; obtain ⟨A1, c1, rfl, hc1, _⟩ := Kd.R_reads hr1; have HR1 := As.mk hr1; have HC1 := As.mk hc1; have HB1 := As.mk hb1; clear hr1 hb1 hc1))
  go_ret2
  exact ⟨_, rfl, HR2.out, HB2.out⟩
end Go.Proofs.YtkffhgiiejbnaaaGreat.En
