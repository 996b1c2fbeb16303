import Derived.Test.YtkffhgiiejbnaaaGreatQDecC
import Derived.Test.YtkffhgiiejbnaaaGreatQRefI
set_option linter.unusedVariables false
set_option linter.unusedSimpArgs false
namespace Go.Proofs.YtkffhgiiejbnaaaGreat.Dc
open Go.Shelf Go.RowKit Go.Proofs.YtkffhgiiejbnaaaGreatW.PrintWords Go.Proofs.YtkffhgiiejbnaaaGreatW.PrintLast Go.Proofs.YtkffhgiiejbnaaaGreatW.PrintMore Go.Proofs.YtkffhgiiejbnaaaGreat.Rf Go.Proofs.YtkffhgiiejbnaaaGreat.Aid Go.Proofs.YtkffhgiiejbnaaaGreat.Mp Go.Proofs.YtkffhgiiejbnaaaGreat.Hp Go.Proofs.YtkffhgiiejbnaaaGreat.Tk Go.Proofs.YtkffhgiiejbnaaaGreat.Vc
set_option linter.unusedVariables false
set_option linter.unusedSimpArgs false
set_option maxHeartbeats 400000
structure DecSh (w : World) (d v : Nat) (told : Nat) : Prop where
  blk : w.heap[d]? = some (.cells #[.string ⟨#[]⟩, .pointer (some ⟨v, 0, none⟩), .bool true, .int .i64 (told : Int)] 155 (0, 0))
theorem DecSh.below {w w' : World} {d v told : Nat} (h : DecSh w d v told) (hb : Below w.heap.size w w') : DecSh w' d v told := ⟨(hb.block _ (blk_lt h.blk)).trans h.blk⟩
theorem back_held {w : World} {d : Nat} {hd : ByteArray} (hc : w.cell? ⟨d, 0, none⟩ = some (.string hd)) : Calls Tryz.prog 83 #[.pointer (some ⟨d, 0, none⟩)] w fun e w' => e = .returned (.int .i64 (hd.size : Int)) ∧ w = w' := by
  go_enter Tryz.func83, Tryz.ntmps83
  go_wp2
  go_ret
  exact ⟨rfl, rfl⟩
theorem held_cell {w : World} {d : Nat} {hd : ByteArray} (hc : w.cell? ⟨d, 0, none⟩ = some (.string hd)) : Calls Tryz.prog 46 #[.pointer (some ⟨d, 0, none⟩)] w fun e w' => e = .returned (.int .i64 (hd.size : Int)) ∧ w = w' := by
  have HH := As.mk (back_held hc)
  go_enter Tryz.func46, Tryz.ntmps46
  go_wp2_with (go_at_call 83; refine HH.out.mono ?_; rintro e w1 ⟨rfl, rfl⟩)
  go_ret
  exact ⟨rfl, rfl⟩
theorem bytes_cell {w : World} {d told : Nat} (hc : w.cell? ⟨d, 3, none⟩ = some (.int .i64 (told : Int))) : Calls Tryz.prog 47 #[.pointer (some ⟨d, 0, none⟩)] w fun e w' => e = .returned (.int .i64 (told : Int)) ∧ w = w' := by
  go_enter Tryz.func47, Tryz.ntmps47
  go_wp2
  go_ret
  exact ⟨rfl, rfl⟩
theorem close_raw {w : World} {d v told : Nat} {hd : ByteArray} {b : Bool} (hD : w.heap[d]? = some (.cells #[.string hd, .pointer (some ⟨v, 0, none⟩), .bool b, .int .i64 (told : Int)] 155 (0, 0))) (ht : told ≤ 1000000000) (hh : hd.size ≤ 1000000000) :
    Calls Tryz.prog 48 #[.pointer (some ⟨d, 0, none⟩)] w fun e w' => e = .returned (.string hd) ∧ DecSh w' d v (told + hd.size) ∧ ∃ u0 u2 u3, w' = ((w.setCell ⟨d, 0, none⟩ u0).setCell ⟨d, 2, none⟩ u2).setCell ⟨d, 3, none⟩ u3 := by
  have c0 := cell_of (i := 0) hD rfl
  have c3 := cell_of (i := 3) hD rfl
  have c2 := cell_of (i := 2) hD rfl
  have z0 := frozen_of hD 0
  have z2 := frozen_of hD 2
  have z3 := frozen_of hD 3
  have htI : (told : Int) ≤ 1000000000 := by omega
  have hhI : (hd.size : Int) ≤ 1000000000 := by omega
  have HD := As.mk hD
  have HT := As.mk (And.intro ht hh)
  clear hD ht hh
  go_enter Tryz.func48, Tryz.ntmps48
  go_wp2
  go_ret
  exact ⟨rfl, ⟨by have h := blk_set (blk_set (blk_set HD.out 0 (.string ⟨#[]⟩)) 2 (.bool true)) 3 (.int .i64 ((told : Int) + (hd.size : Int))); simpa using h⟩, _, _, _, rfl⟩
theorem feed_closed {w : World} {d v told : Nat} (hD : DecSh w d v told) (l : Value) : Calls Tryz.prog 45 #[.pointer (some ⟨d, 0, none⟩), l] w fun e w' => e = .returned (.tuple #[.string ⟨#[]⟩, .int .i64 0, .int .i64 11]) ∧ w = w' := by
  have c2 := cell_of (i := 2) hD.blk rfl
  clear hD
  go_enter Tryz.func45, Tryz.ntmps45
  go_wp2
  go_ret3
  exact ⟨rfl, rfl⟩
theorem feed_bad {w : World} {d v told : Nat} {hd : ByteArray} {s : Sp} (hD : DecAt w d v hd told) (hV : VocAt w v s) (hvd : v < d) (A : Option Addr) (c : Nat) (ids : List Int) (hr : ∀ m : Int, Kd.C (Kd.int .i64) (w.setCell ⟨v, 13, none⟩ (.int .i64 m)) A ids.length ids) (hl : ids.length ≤ 4000) {n : Nat} (hok : itF s ids 0 [] = ([], n, 4)) :
    Calls Tryz.prog 45 #[.pointer (some ⟨d, 0, none⟩), .slice A ids.length c] w fun e w' => e = .returned (.tuple #[.string ⟨#[]⟩, .int .i64 n, .int .i64 4]) ∧ DecAt w' d v hd told ∧ Used w v w' := by
  have hne : d ≠ v := Nat.ne_of_gt hvd
  have HT := As.mk (text_any hV A c ids hr hl)
  have ht : textF s ids = ⟨#[]⟩ := by unfold textF; rw [hok]; rfl
  rw [hok, ht] at HT
  have HD := As.mk hD
  have c1 := cell_of (i := 1) hD.blk rfl
  have c2 := cell_of (i := 2) hD.blk rfl
  clear hV hr hD hok ht
  simp only at HT
  go_enter Tryz.func45, Tryz.ntmps45
  go_wp2_with (go_at_call 76; refine HT.out.mono ?_; rintro e w1 ⟨rfl, hv, hu⟩; have HD1 := As.mk (HD.out.used hne hu); have HU := As.mk hu; clear hv hu c1 c2 HT)
  go_ret3
  exact ⟨rfl, HD1.out, HU.out⟩
end Go.Proofs.YtkffhgiiejbnaaaGreat.Dc
