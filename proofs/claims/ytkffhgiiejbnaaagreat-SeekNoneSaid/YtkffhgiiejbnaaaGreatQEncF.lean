import Derived.Test.YtkffhgiiejbnaaaGreatQEncE
import Derived.Test.YtkffhgiiejbnaaaGreatQFun
import Derived.Test.YtkffhgiiejbnaaaGreatQClo
set_option maxHeartbeats 400000
set_option linter.unusedVariables false
set_option linter.unusedSimpArgs false
namespace Go.Proofs.YtkffhgiiejbnaaaGreat.En
open Go.Shelf Go.RowKit YtkffhgiiejbnaaaGreatW.PrintWords YtkffhgiiejbnaaaGreatW.PrintLast YtkffhgiiejbnaaaGreatW.PrintMore Rf Aid Mp Hp Bn Tk Vc Rg Go.Proofs.YtkffhgiiejbnaaaGreat.Fn
def encI (x : Int) : Value := .int .i64 x
theorem idxI (A : Option Addr) (c : Nat) (l : List Int) (g : Nat) (lb : Array Value) (p : Int → Bool) (eg : ∀ args w, (callFunc g args).run Tryz.prog w = .ok (.enter g args) w) (w : World) (hr : Kd.C (Kd.int .i64) w A l.length l) (hl : l.length ≤ 9223372036854775807)
  (hp : ∀ W, Below w.heap.size w W → ∀ x ∈ l, Calls Tryz.prog g (#[encI x] ++ lb) W fun e W' => e = .returned (.bool (p x)) ∧ Below W.heap.size W W') :
  Calls Tryz.prog 59 #[.slice A l.length c, .func (.func g) #[] lb] w fun e w' => e = .returned (.int .i64 (ix (l.findIdx? p))) ∧ Below w.heap.size w w' := by
 have HR := As.mk hr
 have HP := As.mk hp
 clear hr hp
 obtain ⟨R, hR⟩ : ∃ R, l.findIdx? p = R := ⟨_, rfl⟩
 have HF0 := As.mk (show ((l.drop 0).findIdx? p).map (0 + ·) = R by rw [List.drop_zero, ← hR]; simp)
 rw [hR]
 clear hR
 go_enter Tryz.func59, Tryz.ntmps59
 go_wp2
 go_loopg [5, 8] l.length (fun k _ v w' => ∃ (i : Nat), v = .int .i64 i ∧ i ≤ l.length ∧ As (((l.drop i).findIdx? p).map (i + ·) = R) ∧ As (l.length - i ≤ k) ∧ As (Below w.heap.size w w'))
 case atStart => exact ⟨0, rfl, Nat.zero_le _, HF0, ⟨by omega⟩, ⟨Below.refl _ _⟩⟩
 case round =>
  clear HF0
  obtain ⟨i, rfl, hi, HF, HK, HB⟩ := hrel
  by_cases hlt : i < l.length
  ·obtain ⟨k1, rfl⟩ : ∃ k1, gk = k1 + 1 := ⟨gk - 1, by have := HK.out; omega⟩
   obtain ⟨ad, rfl, x0⟩ := rd_at (Kd.C_below HR.out HB.out) (List.getElem?_eq_getElem hlt)
   have hltI : (i : Int) < l.length := by omega
   have HC := As.mk (HP.out _ HB.out l[i] (List.getElem_mem hlt))
   have HS := As.mk ((find_step p l i hlt).symm.trans HF.out)
   clear HF
   unfold encI at HC
   generalize l[i] = x at *
   cases hq : p x with
   | true =>
    rw [hq] at HC HS
    have HE := As.mk ((if_pos rfl).symm.trans HS.out)
    clear HS
    go_wp2_with (go_at_fn g; refine HC.out.mono ?_; rintro e w1 ⟨rfl, hb⟩)
    go_ret
    exact ⟨by rw [← HE.out]; rfl, bt_ HB.out hb⟩
   | false =>
    rw [hq] at HC HS
    have HE := As.mk ((if_neg (by decide)).symm.trans HS.out)
    clear HS
    go_wp2_with (go_at_fn g; refine HC.out.mono ?_; rintro e w1 ⟨rfl, hb⟩; have HB1 := As.mk (bt_ HB.out hb); clear hb HB)
    go_roundg k1
    case measure => omega
    case rel => exact ⟨i + 1, by go_num, by omega, HE, ⟨by have := HK.out; omega⟩, HB1⟩
  ·obtain rfl : i = l.length := by omega
   have HE := As.mk ((find_end p l l.length (Nat.le_refl _)).symm.trans HF.out)
   go_wp2
   go_ret
   exact ⟨by rw [← HE.out]; rfl, HB.out⟩
end Go.Proofs.YtkffhgiiejbnaaaGreat.En
