import Derived.Test.YtkffhgiiejbnaaaGreatQChainI
set_option linter.unusedVariables false
set_option linter.unusedSimpArgs false
namespace Go.Proofs.YtkffhgiiejbnaaaGreat.Ch
open Go.RowKit Go.Proofs.YtkffhgiiejbnaaaGreatW.PrintWords Go.Proofs.YtkffhgiiejbnaaaGreatW.PrintLast Go.Proofs.YtkffhgiiejbnaaaGreatW.PrintMore Go.Proofs.YtkffhgiiejbnaaaGreat.Aid Go.Proofs.YtkffhgiiejbnaaaGreat.Mp Go.Proofs.YtkffhgiiejbnaaaGreat.Hp Go.Proofs.YtkffhgiiejbnaaaGreat.Hq Go.Proofs.YtkffhgiiejbnaaaGreat.Tk
set_option linter.unusedVariables false
set_option linter.unusedSimpArgs false
set_option maxHeartbeats 400000
theorem join_any {w : World} {base c : Nat} {v : Value} {pt q : Nat} {lim st : Int} {L : List Nd} {B : Nat} {H : List (Th Wx)} {E : List Ent} {W0 : World} (HL : LkAt w base c v pt q lim st L) (HQ : HpOf w base q B H) (hW0 : W0.heap.size ≤ base) (HT0 : TabAt W0 pt E) (HB0 : Below base W0 w) {k j : Nat} {id after : Int} {n m : Nd} (h : JoinPre E L k id n j m after) (hHl : H.length ≤ 800000000) (hB : B ≤ 800000000) :
    Calls Tryz.prog 181 #[.pointer (some ⟨c, 0, none⟩), .int .i64 (k : Int), .int .i64 id] w fun e w' => e = .returned (.tuple #[]) ∧ Joined w w' base c v pt q lim (joinL L k j after id) B H (askF E lim (joinL L k j after id) n.ahead) n.ahead (askF E lim (joinL L k j after id) (k : Int)) (k : Int) := by
  have hg := h.good.goes h.hI
  have ha := h.ahead
  rcases h.ha with e | ⟨p, x, e, h1, h2, h3⟩
  · have hm := h.hm
    have hI := h.hI
    subst e
    exact join_end HL HQ hW0 HT0 HB0 k j id h.ne h.hk h.hn h.hj hm hI hg ha hHl hB
  · have hm := h.hm
    have hI := h.hI
    subst e
    exact join_two HL HQ hW0 HT0 HB0 k j id h.ne h.hk h.hn h.hj hm h1 h2 h3 hI hg ha hHl hB
structure Ran (w w' : World) (base c pt q : Nat) (lim : Int) (R : List Int) : Prop where
  mk :: (out : ∃ v st L ns, LkAt w' base c v pt q lim st L ∧ ChainIs L ns ∧ ids ns = R ∧ L.length ≤ 200000000) (below : Below base w w')
set_option maxRecDepth 100000 in
theorem run_any {w : World} {base c : Nat} {v : Value} {pt q : Nat} {st : Int} {L : List Nd} {B N : Nat} {H : List (Th Wx)} {E : List Ent} {W0 : World} {R : List Int} {ns : List (Nat × Int)} (hG : Tk.Good E) (HL : LkAt w base c v pt q (E.length : Int) st L) (HQ : HpOf w base q B H) (hW0 : W0.heap.size ≤ base) (HT0 : TabAt W0 pt E) (HB0 : Below base W0 w) (HI : RunInv E N R L ns B H) (hN : N ≤ 200000000) (hL : L.length ≤ 200000000) :
    Calls Tryz.prog 174 #[.pointer (some ⟨c, 0, none⟩)] w fun e w' => e = .returned (.tuple #[]) ∧ Ran w w' base c pt q (E.length : Int) R := by
  have HL0 := As.mk HL
  have HQ0 := As.mk HQ
  have HI0 := As.mk HI
  have HTT := As.mk (And.intro HT0 (And.intro HB0 hW0))
  have HN := As.mk hN
  have HGG := As.mk hG
  have HLL := As.mk hL
  clear HL HQ HI HT0 HB0 hW0 hN hG hL
  go_enter Tryz.func174, Tryz.ntmps174
  go_wp2_with fail
  go_loopg [] (H.length + 3 * ns.length) (fun f w' => ∃ (v : Value) (st : Int) (L2 : List Nd) (ns2 : List (Nat × Int)) (B2 : Nat) (H2 : List (Th Wx)) (W : World), As (W = w') ∧ As (H2.length + 3 * ns2.length ≤ f) ∧ As (LkAt W base c v pt q (E.length : Int) st L2) ∧ As (HpOf W base q B2 H2) ∧ As (RunInv E N R L2 ns2 B2 H2) ∧ As (Below base w W) ∧ As (L2.length = L.length))
  case atStart => exact ⟨v, st, L, ns, B, H, w, ⟨rfl⟩, ⟨Nat.le_refl _⟩, HL0, HQ0, HI0, ⟨Below.refl _ _⟩, ⟨rfl⟩⟩
  case round =>
    clear HL0 HQ0 HI0
    obtain ⟨v, st, L2, ns2, B2, H2, W, HW, HK, HL, HQ, HI, HB, HLN⟩ := hrel
    have hW := HW.out
    subst hW
    clear HW
    have c2 := HL.out.c.2.2.1
    have hHb : H2.length ≤ 700000000 := by have := HI.out.bH; have := HN.out; omega
    have hBb : B2 ≤ 700000000 := by have := HI.out.bB; have := HN.out; omega
    cases H2 with
    | nil =>
      have HS := As.mk (HI.out.stop HGG.out)
      have HI1 := As.mk HI.out.chain
      clear HI
      go_wp2_with (go_at_call 179; refine (pop_no HQ.out).mono ?_; rintro e w1 ⟨rfl, hb⟩; have HB1 := As.mk (HB.out.trans (hb.mono (Nat.le_trans HL.out.le (Nat.le_of_lt HL.out.lt)))); have HL1 := As.mk (HL.out.below hb); clear hb)
      refine bodyPost_ret (results_none rfl _ _ _) rfl ?_
      exact ⟨rfl, ⟨v, st, L2, ns2, (HL1.out.below (below_alloc (Below.refl _ _) _)), HI1.out, HS.out, by rw [HLN.out]; exact HLL.out⟩, HB1.out.trans ((below_alloc (Below.refl _ _) _).mono (Nat.le_trans HL1.out.le (Nat.le_of_lt HL1.out.lt)))⟩
    | cons y0 Y =>
      generalize hY : y0 :: Y = H2 at *
      have hpos : 0 < H2.length := by rw [← hY]; simp
      clear hY
      obtain ⟨f, rfl⟩ : ∃ f, gk = f + 1 := ⟨gk - 1, by have := HK.out; omega⟩
      go_wp2_with (go_at_call 179; fail)
      refine (pop_yes HQ.out hpos (by omega)).mono ?_
      intro e w1 hpop
      obtain ⟨⟨x, l2, rfl, hp, hle, hq⟩, hb, hkk⟩ := hpop
      obtain ⟨k, ok1, ok2, ok3, ok4, ok5⟩ := HI.out.ok x (hp.mem_iff.2 (List.mem_cons_self ..))
      have HL1 := As.mk (HL.out.kept hkk (HpOf.qt hq))
      have HB1 := As.mk (HB.out.trans hb)
      have HQ1 := As.mk hq
      have HPM := As.mk hp
      have HLE := As.mk hle
      have HPK := As.mk ok1
      obtain ⟨n0, hn0⟩ : ∃ n0, L2[k]? = some n0 := ⟨_, List.getElem?_eq_getElem ok3⟩
      have HN0 := As.mk (And.intro hn0 (HI.out.good.goes hn0))
      obtain ⟨r, p, t, f0, a, b⟩ := x
      simp only at ok1 ok2 ok4 ok5
      subst ok2
      have hba := below_alloc (Below.refl w1.heap.size w1) (.cells #[.int .i64 (k : Int), .int .i64 a, .int .i64 b] 275)
      have HM2 := As.mk (Go.MapKept.heap_alloc w1 (.cells #[.int .i64 (k : Int), .int .i64 a, .int .i64 b] 275)).1
      have HL2 := As.mk (HL1.out.below hba)
      have HQ2 := As.mk (HQ1.out.below hba)
      have HB2 := As.mk (HB1.out.trans (hba.mono (Nat.le_trans HL1.out.le (Nat.le_of_lt HL1.out.lt))))
      clear hp hle hq hb hkk hn0 ok1 ok3 ok4 ok5 hba HL HQ HB HL1 HQ1 HB1 c2
      have m0 := cell_of (i := 0) HM2.out rfl
      have m1 := cell_of (i := 1) HM2.out rfl
      have m2 := cell_of (i := 2) HM2.out rfl
      go_wp2_with (go_at_call 180; fail)
      refine (stale_any HL2.out k a b HN0.out.1 HN0.out.2).mono ?_
      rintro e w3 ⟨rfl, hb3⟩
      have HL3 := As.mk (HL2.out.below hb3)
      have HQ3 := As.mk (HQ2.out.below hb3)
      have HB3 := As.mk (HB2.out.trans (hb3.mono (Nat.le_trans HL2.out.le (Nat.le_of_lt HL2.out.lt))))
      have HM3 := As.mk ((hb3.block _ (blk_lt HM2.out)).trans HM2.out)
      clear hb3 m0 m1 m2 HL2 HQ2 HB2 HM2
      cases hst : staleB L2 k a b with
      | true =>
        have HI3 := As.mk (HI.out.stale HPM.out HPK.out hst)
        have HLL2 := As.mk (HPM.out.length_eq)
        clear hst HI
        go_wp2
        go_roundg f
        case measure => omega
        case rel => exact ⟨v, st, L2, ns2, B2, l2, _, ⟨rfl⟩, ⟨by have := HK.out; have := HLL2.out; simp only [List.length_cons] at this; omega⟩, HL3, HQ3, HI3, HB3, HLN⟩
      | false =>
        obtain ⟨n, j, m, after, hpre, hnext⟩ := HI.out.join HGG.out HPM.out HLE.out HPK.out hst
        have HPRE := As.mk hpre
        have HNEXT := As.mk hnext
        have HLL2 := As.mk (HPM.out.length_eq)
        have hl2 : l2.length ≤ 700000000 := by have := HLL2.out; simp only [List.length_cons] at this; omega
        simp only at HPRE HNEXT
        clear hst HI hpre hnext
        have m0 := cell_of (i := 0) HM3.out rfl
        go_wp2_with (go_at_call 181; fail)
        refine (join_any HL3.out HQ3.out HTT.out.2.2 HTT.out.1 (HTT.out.2.1.trans HB3.out) HPRE.out (by omega) (by omega)).mono ?_
        rintro e w4 ⟨rfl, ⟨⟨st4, hl4⟩, hb4, H1, H3, ha1, ha3, hq4⟩⟩
        obtain ⟨ns4, hi4, hn4⟩ := HNEXT.out H1 H3 ha1 ha3
        have HL4 := As.mk hl4
        have HB4 := As.mk (HB3.out.trans hb4)
        have HQ4 := As.mk hq4
        have HI4 := As.mk hi4
        have HN4 := As.mk hn4
        have HA4 := As.mk (And.intro ha1.len ha3.len)
        have HJL := As.mk (joinL_len L2 k j after r)
        clear hl4 hb4 hq4 hi4 hn4 ha1 ha3 m0 HNEXT HPRE HL3 HQ3 HB3 HM3
        go_wp2
        go_roundg f
        case measure => omega
        case rel => exact ⟨v, st4, _, ns4, _, H3, _, ⟨rfl⟩, ⟨by have := HK.out; have := HLL2.out; have := HA4.out; have := HN4.out; simp only [List.length_cons] at *; omega⟩, HL4, HQ4, HI4, HB4, ⟨HJL.out.trans HLN.out⟩⟩
end Go.Proofs.YtkffhgiiejbnaaaGreat.Ch
