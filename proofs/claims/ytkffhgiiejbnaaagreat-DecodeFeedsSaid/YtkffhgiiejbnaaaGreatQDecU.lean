import Derived.BigQuiet
import Derived.Test.YtkffhgiiejbnaaaGreatQRefI
import Derived.Test.YtkffhgiiejbnaaaGreatQDecN
import Derived.Test.YtkffhgiiejbnaaaGreatQHeldL
import Derived.Test.YtkffhgiiejbnaaaGreatQ03
import Derived.Test.YtkffhgiiejbnaaaGreatQ04
import Derived.Test.YtkffhgiiejbnaaaGreatQDecH
set_option linter.unusedVariables false
set_option linter.unusedSimpArgs false
namespace Go.Proofs.YtkffhgiiejbnaaaGreat.Rt
open Go.RowKit Go.Proofs.YtkffhgiiejbnaaaGreatW.PrintWords Go.Proofs.YtkffhgiiejbnaaaGreatW.PrintLast Go.Proofs.YtkffhgiiejbnaaaGreatW.PrintMore Go.Proofs.YtkffhgiiejbnaaaGreat.Rf Go.Proofs.YtkffhgiiejbnaaaGreat.Aid Go.Proofs.YtkffhgiiejbnaaaGreat.Mp Go.Proofs.YtkffhgiiejbnaaaGreat.Hp Go.Proofs.YtkffhgiiejbnaaaGreat.Tk Go.Proofs.YtkffhgiiejbnaaaGreat.Vc Go.Proofs.YtkffhgiiejbnaaaGreat.Dc
set_option linter.unusedVariables false
set_option linter.unusedSimpArgs false
set_option maxHeartbeats 400000
theorem vbad_any {w : World} {v : Nat} {A0 B0 A3 A4 A5 : Option Addr} {c0 d0 c3 c4 c5 : Nat} {s : Vc.Sp} (h : RefAt w v A0 B0 A3 A4 A5 c0 d0 c3 c4 c5 s) (hX : s.X.length ≤ 1000) (A : Option Addr) (c : Nat) (ids : List Int) (hr : Kd.C (Kd.int .i64) w A ids.length ids) (hc : ids.length ≤ c) (hl : ids.length ≤ 1000000) :
    Calls Tryz.prog 34 #[vV A0 B0 A3 A4 A5 c0 d0 c3 c4 c5 (tabOf s).1 s, .slice A ids.length c] w fun e w' => e = .returned (.int .i64 (badI (badF s ids))) ∧ Below w.heap.size w w' := by
  have ht := h.tab
  exact ligatureref10_Vocab_Bad.calls _ A0 c0 _ B0 d0 _ A4 c4 s.C A5 c5 s.J A3 c3 s.X A c ids _ w ht.b ht.hb ht.m ht.hm (Kd.R_reads' h.C).2.2 (Kd.R_reads' h.C).2.1 (Kd.R_reads' h.J).2.2 (Kd.R_reads' h.J).2.1 (Kd.R_reads' h.X).2.2 (Kd.R_reads' h.X).2.1 hr hc (bad_some s hX ids hl)
theorem vitems_any {w : World} {v : Nat} {A0 B0 A3 A4 A5 : Option Addr} {c0 d0 c3 c4 c5 : Nat} {s : Vc.Sp} (h : RefAt w v A0 B0 A3 A4 A5 c0 d0 c3 c4 c5 s) (hok : VOk s) (A : Option Addr) (c : Nat) (ids : List Int) (hr : Kd.C (Kd.int .i64) w A ids.length ids) (hc : ids.length ≤ c) (hl : ids.length ≤ 10000) (hb : badF s ids = none) :
    Calls Tryz.prog 36 #[vV A0 B0 A3 A4 A5 c0 d0 c3 c4 c5 (tabOf s).1 s, .slice A ids.length c] w fun e w' => ∃ v0 : Value, e = .returned v0 ∧ Kd.R (Kd.int .i64) 3 w' w.heap.size (fun _ => True) v0 (itL s ids) ∧ Below w.heap.size w w' := by
  have ht := h.tab
  exact ligatureref10_Vocab_Items.calls _ A0 c0 _ B0 d0 _ A4 c4 s.C A5 c5 s.J A3 c3 s.X A c ids _ w ht.b ht.hb ht.m ht.hm (Kd.R_reads' h.C).2.2 (Kd.R_reads' h.C).2.1 (Kd.R_reads' h.J).2.2 (Kd.R_reads' h.J).2.1 (Kd.R_reads' h.X).2.2 (Kd.R_reads' h.X).2.1 hr hc (items_some s hok ids hl hb)
theorem itemsOf_len {s : Sp} (h : VOk s) (id : Int) : (itemsOf s id).length ≤ 64 := by
  unfold itemsOf
  split
  · simp
  · rw [bytesI_len]; exact byt_small (small_of h) id
theorem VocAt.good {w : World} {v : Nat} {s : Sp} (h : VocAt w v s) : Mk.GoodS s.X := by
  obtain ⟨_, _, w0, pt, pb, pm, h1, h2, h3, h4, h5, h6, h7, h8⟩ := h
  exact h5.goodS
theorem blk_used {w w' : World} {v g t : Nat} {cs : Array Value} (hu : Used w v w') (h : w.heap[g]? = some (.cells cs t (0, 0))) (hne : g ≠ v) : w'.heap[g]? = some (.cells cs t (0, 0)) := by
  obtain ⟨m, hm⟩ := hu
  have h1 := blk_far h (p := ⟨v, 13, none⟩) hne (.int .i64 m)
  exact (hm.block _ (by have := blk_lt h; simpa [World.setCell] using this)).trans h1
end Go.Proofs.YtkffhgiiejbnaaaGreat.Rt
namespace Go.Proofs.YtkffhgiiejbnaaaGreat.Dc
open Go.Shelf Go.RowKit Go.Proofs.YtkffhgiiejbnaaaGreatW.PrintWords Go.Proofs.YtkffhgiiejbnaaaGreatW.PrintLast Go.Proofs.YtkffhgiiejbnaaaGreatW.PrintMore Go.Proofs.YtkffhgiiejbnaaaGreat.Rf Go.Proofs.YtkffhgiiejbnaaaGreat.Aid Go.Proofs.YtkffhgiiejbnaaaGreat.Mp Go.Proofs.YtkffhgiiejbnaaaGreat.Hp Go.Proofs.YtkffhgiiejbnaaaGreat.Tk Go.Proofs.YtkffhgiiejbnaaaGreat.Vc
set_option linter.unusedVariables false
set_option linter.unusedSimpArgs false
set_option maxHeartbeats 400000
set_option maxRecDepth 100000 in
theorem feed_own {w : World} {d v told : Nat} {hd : ByteArray} {s : Sp} (hD : DecAt w d v hd told) (hV : VocAt w v s) (hvd : v < d) (A : Option Addr) (c : Nat) (ids : List Int) (hr : ∀ m : Int, Kd.C (Kd.int .i64) (w.setCell ⟨v, 13, none⟩ (.int .i64 m)) A ids.length ids) (hl : ids.length ≤ 4000) (hok : (itF s ids 0 []).2.2 = 0)
    (q : Nat) (hq : (hd ++ textF s ids).size = q + heldF (hd ++ textF s ids)) (hb : (hd ++ textF s ids).size ≤ 1000000000) (ht : told ≤ 1000000000) :
    Calls Tryz.prog 45 #[.pointer (some ⟨d, 0, none⟩), .slice A ids.length c] w fun e w' => e = .returned (.tuple #[.string ((hd ++ textF s ids).extract 0 q), .int .i64 (itF s ids 0 []).2.1, .int .i64 0]) ∧ DecAt w' d v ((hd ++ textF s ids).extract q (hd ++ textF s ids).size) (told + q) ∧ ∃ W u0 u3, Used w v W ∧ (∃ cs, W.heap[d]? = some (.cells cs 155 (0, 0))) ∧ w' = (W.setCell ⟨d, 0, none⟩ u0).setCell ⟨d, 3, none⟩ u3 := by
  have hne : d ≠ v := Nat.ne_of_gt hvd
  have HT := As.mk (text_any hV A c ids hr hl)
  rw [hok] at HT
  have hqs : ((hd ++ textF s ids).extract 0 q).size = q := by rw [ByteArray.size_extract]; omega
  have hqb : (q : Int) ≤ 1000000000 := by omega
  have htb : (told : Int) ≤ 1000000000 := by omega
  have HD := As.mk hD
  have c1 := cell_of (i := 1) hD.blk rfl
  have c2 := cell_of (i := 2) hD.blk rfl
  generalize textF s ids = t at *
  have HP := As.mk (fun (W : World) (h : DecAt W d v hd told) => pass_any (t := t) (cell_of (i := 0) h.blk rfl) (frozen_of h.blk 0) q hq hb)
  generalize (hd ++ t).extract 0 q = P at *
  generalize (hd ++ t).extract q (hd ++ t).size = R at *
  generalize (itF s ids 0 []).2.1 = n at *
  clear hV hr hok hq hb hD
  go_enter Tryz.func45, Tryz.ntmps45
  go_wp2_with (first
    | (go_at_call 76; refine HT.out.mono ?_; rintro e w1 ⟨rfl, hv, hu⟩; have HD1 := As.mk (HD.out.used hne hu); have HV1 := As.mk hv; have HU1 := As.mk hu; clear hv hu c1 c2 HT)
    | (go_at_call 82; refine (HP.out _ HD1.out).mono ?_; rintro e w3 ⟨rfl, w2, hb2, rfl⟩; have HU2 := As.mk (used_below HU1.out hb2); have HW2 := As.mk ((hb2.block _ HD1.out.lt).trans HD1.out.blk); have hD2 : (w2.setCell ⟨d, 0, none⟩ (.string R)).heap[d]? = some (.cells #[.string R, .pointer (some ⟨v, 0, none⟩), .bool false, .int .i64 (told : Int)] 155 (0, 0)) := blk_set ((hb2.block _ HD1.out.lt).trans HD1.out.blk) 0 _; have HD2 := As.mk hD2; have c3 := cell_of (i := 3) hD2 rfl; have z3 := blk_frozen hD2 3; clear hD2 hb2))
  go_ret3
  exact ⟨rfl, ⟨blk_set HD2.out 3 _⟩, w2, _, _, HU2.out, ⟨_, HW2.out⟩, rfl⟩
theorem VocO_high {lo : Nat} {w : World} {v : Nat} {s : Sp} (h : VocO lo w v s) {a : Addr} (ha : v < a.block) (u : Value) : VocO lo (w.setCell a u) v s := by
  obtain ⟨⟨cs, hc⟩, ⟨n, hn⟩, h0, w0, pt, pb, pm, bm, pq, sv, bi, bt, h1, h2, h3, h4, h5, h6, h7, h8⟩ := h
  have hv : v ≠ a.block := by omega
  have far : ∀ i x, w.cell? ⟨v, i, none⟩ = some x → (w.setCell a u).cell? ⟨v, i, none⟩ = some x := fun i x hx => by
    rw [World.cell?_setCell_far _ _ _ _ (Ne.symm hv)]; exact hx
  exact ⟨⟨cs, blk_far hc hv u⟩, ⟨n, far _ _ hn⟩, h0, w0, pt, pb, pm, bm, pq, sv, bi, bt, h1, h2.setCell (by omega) u, h3, h4, h5, far _ _ h6, far _ _ h7, far _ _ h8⟩
theorem RefAt_dec {w : World} {v d : Nat} {cs : Array Value} {A0 B0 A3 A4 A5 : Option Addr} {c0 d0 c3 c4 c5 : Nat} {s : Vc.Sp} (h : Rt.RefAt w v A0 B0 A3 A4 A5 c0 d0 c3 c4 c5 s) (hd : w.heap[d]? = some (.cells cs 155 (0, 0))) (j : Nat) (u : Value) : Rt.RefAt (w.setCell ⟨d, j, none⟩ u) v A0 B0 A3 A4 A5 c0 d0 c3 c4 c5 s := by
  obtain ⟨⟨base, h1, h2⟩, h3, h4, h5⟩ := h
  exact ⟨⟨base, h1, ⟨Kd.R_set h2.b hd (by decide) j u, Kd.R_set h2.m hd (by decide) j u⟩⟩, Kd.R_set h3 hd (by decide) j u, Kd.R_set h4 hd (by decide) j u, Kd.R_set h5 hd (by decide) j u⟩
end Go.Proofs.YtkffhgiiejbnaaaGreat.Dc
