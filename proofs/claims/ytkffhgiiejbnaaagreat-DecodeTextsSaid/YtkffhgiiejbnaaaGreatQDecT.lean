import Derived.BigQuiet
import Derived.Test.YtkffhgiiejbnaaaGreatQRefI
import Derived.Test.YtkffhgiiejbnaaaGreatQDecN
import Derived.Test.YtkffhgiiejbnaaaGreatQHeldL
import Derived.Test.YtkffhgiiejbnaaaGreatQ03
namespace Go.Proofs.YtkffhgiiejbnaaaGreat.Rt
open Go.RowKit Go.Proofs.YtkffhgiiejbnaaaGreatW.PrintWords Go.Proofs.YtkffhgiiejbnaaaGreatW.PrintLast Go.Proofs.YtkffhgiiejbnaaaGreatW.PrintMore Go.Proofs.YtkffhgiiejbnaaaGreat.Rf Go.Proofs.YtkffhgiiejbnaaaGreat.Aid Go.Proofs.YtkffhgiiejbnaaaGreat.Mp Go.Proofs.YtkffhgiiejbnaaaGreat.Hp Go.Proofs.YtkffhgiiejbnaaaGreat.Tk Go.Proofs.YtkffhgiiejbnaaaGreat.Vc Go.Proofs.YtkffhgiiejbnaaaGreat.Dc
set_option linter.unusedVariables false
set_option linter.unusedSimpArgs false
set_option maxHeartbeats 400000
theorem vbad_any {w : World} {v : Nat} {A0 B0 A3 A4 A5 : Option Addr} {c0 d0 c3 c4 c5 : Nat} {s : Vc.Sp} (h : RefAt w v A0 B0 A3 A4 A5 c0 d0 c3 c4 c5 s) (hX : s.X.length ≤ 1000) (A : Option Addr) (c : Nat) (ids : List Int) (hr : Kd.C (Kd.int .i64) w A ids.length ids) (hc : ids.length ≤ c) (hl : ids.length ≤ 1000000) :
    Calls Tryz.prog 34 #[vV A0 B0 A3 A4 A5 c0 d0 c3 c4 c5 (tabOf s).1 s, .slice A ids.length c] w fun e w' => e = .returned (.int .i64 (badI (badF s ids))) ∧ Below w.heap.size w w' := by
  have ht := h.tab
  exact ligatureref10_Vocab_Bad.calls _ A0 c0 _ B0 d0 _ A4 c4 s.C A5 c5 s.J A3 c3 s.X A c ids _ w ht.b ht.hb ht.m ht.hm (Kd.R_reads' h.C).2.2 (Kd.R_reads' h.C).2.1 (Kd.R_reads' h.J).2.2 (Kd.R_reads' h.J).2.1 (Kd.R_reads' h.X).2.2 (Kd.R_reads' h.X).2.1 hr hc (bad_some s hX ids hl)
theorem vitems_any {w : World} {v : Nat} {A0 B0 A3 A4 A5 : Option Addr} {c0 d0 c3 c4 c5 : Nat} {s : Vc.Sp} (h : RefAt w v A0 B0 A3 A4 A5 c0 d0 c3 c4 c5 s) (hok : VOk s) (A : Option Addr) (c : Nat) (ids : List Int) (hr : Kd.C (Kd.int .i64) w A ids.length ids) (hc : ids.length ≤ c) (hl : ids.length ≤ 10000) (hb : badF s ids = none) :
    Calls Tryz.prog 36 #[vV A0 B0 A3 A4 A5 c0 d0 c3 c4 c5 (tabOf s).1 s, .slice A ids.length c] w fun e w' => ∃ v0 : Value, e = .returned v0 ∧ Kd.R (Kd.int .i64) 3 w' w.heap.size (fun _ => True) v0 (itL s ids) ∧ Below w.heap.size w w' := by
  have ht := h.tab
  exact ligatureref10_Vocab_Items.calls _ A0 c0 _ B0 d0 _ A4 c4 s.C A5 c5 s.J A3 c3 s.X A c ids _ w ht.b ht.hb ht.m ht.hm (Kd.R_reads' h.C).2.2 (Kd.R_reads' h.C).2.1 (Kd.R_reads' h.J).2.2 (Kd.R_reads' h.J).2.1 (Kd.R_reads' h.X).2.2 (Kd.R_reads' h.X).2.1 hr hc (items_some s hok ids hl hb)
theorem text_long {w : World} {v : Nat} (A : Option Addr) (c : Nat) (n : Nat) (hl : 4000 < n) : Calls Tryz.prog 76 #[.pointer (some ⟨v, 0, none⟩), .slice A n c] w fun e w' => e = .returned (.tuple #[.string ⟨#[]⟩, .int .i64 0, .int .i64 3]) ∧ w = w' := by
  have hli : (4000 : Int) < (n : Int) := by omega
  go_enter Tryz.func76, Tryz.ntmps76
  go_wp2
  go_ret3
  exact ⟨rfl, rfl⟩
theorem Text_long {w : World} {v : Nat} (A : Option Addr) (c : Nat) (n : Nat) (hl : 4000 < n) : Calls Tryz.prog 33 #[.pointer (some ⟨v, 0, none⟩), .slice A n c] w fun e w' => e = .returned (.tuple #[.string ⟨#[]⟩, .int .i64 0, .int .i64 3]) ∧ w = w' := by
  go_enter Tryz.func33, Tryz.ntmps33
  go_wp2_with (go_at_call 76; refine (text_long _ _ _ hl).mono ?_; rintro e w1 ⟨rfl, rfl⟩)
  go_ret3
  exact ⟨rfl, rfl⟩
theorem Text_any {w : World} {v : Nat} {s : Sp} (h : VocAt w v s) (A : Option Addr) (c : Nat) (ids : List Int) (hr : ∀ m : Int, Kd.C (Kd.int .i64) (w.setCell ⟨v, 13, none⟩ (.int .i64 m)) A ids.length ids) (hl : ids.length ≤ 4000) :
    Calls Tryz.prog 33 #[.pointer (some ⟨v, 0, none⟩), .slice A ids.length c] w fun e w' => e = .returned (.tuple #[.string (textF s ids), .int .i64 (itF s ids 0 []).2.1, .int .i64 (itF s ids 0 []).2.2]) ∧ Used w v w' := by
  have HT := As.mk (text_any h A c ids hr hl)
  generalize textF s ids = t at *
  generalize itF s ids 0 [] = R at *
  obtain ⟨R1, R2, R3⟩ := R
  simp only at *
  clear h hr
  go_enter Tryz.func33, Tryz.ntmps33
  go_wp2_with (go_at_call 76; refine HT.out.mono ?_; rintro e w1 ⟨rfl, hv, hu⟩; have HU := As.mk hu; clear hv hu)
  go_ret3
  exact ⟨rfl, HU.out⟩
theorem itemsOf_len {s : Sp} (h : VOk s) (id : Int) : (itemsOf s id).length ≤ 64 := by
  unfold itemsOf
  split
  · simp
  · rw [bytesI_len]; exact byt_small (small_of h) id
theorem VocAt.good {w : World} {v : Nat} {s : Sp} (h : VocAt w v s) : Mk.GoodS s.X := by
  obtain ⟨_, _, w0, pt, pb, pm, h1, h2, h3, h4, h5, h6, h7, h8⟩ := h
  exact h5.goodS
theorem blk_used {w w' : World} {v g t : Nat} {cs : Array Value} (hu : Used w v w') (h : w.heap[g]? = some (.cells cs t (0, 0))) (hne : g ≠ v) : w'.heap[g]? = some (.cells cs t (0, 0)) := by
  obtain ⟨m, hm⟩ := hu
  have h1 := blk_far h (p := ⟨v, 13, none⟩) hne (.int .i64 m)
  exact (hm.block _ (by have := blk_lt h; simpa [World.setCell] using this)).trans h1
set_option maxRecDepth 100000 in
set_option maxHeartbeats 2000000 in
theorem decodeTexts_any {A0 A1 A2 A3 : Option Addr} {c0 c1 c2 c3 : Nat} {L : List Int} {C : List S165} {J : List S108} {X : List S93} {w : World} (h : CaseAt w A0 A1 A2 A3 c0 c1 c2 c3 L C J X) (A : Option Addr) (c : Nat) (ids : List Int) (hr : Kd.C (Kd.int .i64) w A ids.length ids) (hc : ids.length ≤ c) (t : ByteArray) :
    Calls Tryz.prog 8 #[caseV A0 A1 A2 A3 c0 c1 c2 c3 L C J X, .slice A ids.length c, .string t] w fun e w' => e = .returned (.bool true) ∧ Below w.heap.size w w' := by
  obtain ⟨g, hg01, hG⟩ := great_any h
  have HG := As.mk hG
  have HC := As.mk h
  have HR := As.mk hr
  have HCC := As.mk hc
  have HLI := As.mk hr.2.1
  clear hG h hr hc
  have HB0 := As.mk (below_alloc (Below.refl w.heap.size w) (.cells #[.slice A0 L.length c0, .slice A1 C.length c1, .slice A2 J.length c2, .slice A3 X.length c3] 27))
  have HK0 := As.mk (Go.MapKept.heap_alloc w (.cells #[.slice A0 L.length c0, .slice A1 C.length c1, .slice A2 J.length c2, .slice A3 X.length c3] 27)).1
  unfold caseV at HG ⊢
  have hearly : (g = 1 ∨ (g = 0 ∧ 200 < ids.length ∧ ids.length ≤ 4000) ∨ (g = 0 ∧ ¬ 200 < ids.length ∧ 200 < t.size) ∨ (g = 0 ∧ 4000 < ids.length ∧ 200 < t.size)) ∨ (g = 0 ∧ ¬ 200 < t.size ∧ (ids.length ≤ 200 ∨ 4000 < ids.length)) := by omega
  rcases hearly with he | ⟨rfl, hts, hn⟩
  · have go : ∀ (he : (g = 1) ∨ (g = 0 ∧ (200 : Int) < (ids.length : Int) ∧ (ids.length : Int) ≤ 4000) ∨ (g = 0 ∧ (ids.length : Int) ≤ 200 ∧ (200 : Int) < (t.size : Int)) ∨ (g = 0 ∧ (200 : Int) < (ids.length : Int) ∧ (4000 : Int) < (ids.length : Int) ∧ (200 : Int) < (t.size : Int))), Calls Tryz.prog 8 #[.agg #[.slice A0 L.length c0, .slice A1 C.length c1, .slice A2 J.length c2, .slice A3 X.length c3], .slice A ids.length c, .string t] w fun e w' => e = .returned (.bool true) ∧ Below w.heap.size w w' := by
      clear he
      intro he
      rcases he with rfl | ⟨rfl, h1, h2⟩ | ⟨rfl, h1, h2⟩ | ⟨rfl, h1, h2, h3⟩
      all_goals
        go_enter Tryz.func8, Tryz.ntmps8
        go_wp2_with (first
          | (go_at_call 13; refine (HG.out _ HB0.out).mono ?_; rintro e w1 ⟨rfl, hb⟩; have HB1 := As.mk (bt_ HB0.out hb); clear hb)
          | (go_at_call 30; refine (awake_any _).mono ?_; rintro e w2 ⟨rfl, hb⟩; have HB2 := As.mk (bt_ HB1.out hb); clear hb))
        go_ret
        exact ⟨rfl, HB2.out⟩
    exact go (by omega)
  · have HO := As.mk (fun (W : World) (hb : Below w.heap.size w W) => of_any (HC.out.below hb))
    have HOK := As.mk (some_ok L C J X)
    unfold caseV at HO
    generalize someS L C J X = sp at HO HOK
    unfold vV at HO
    have HTS := As.mk hts
    have htsI : ¬ (200 : Int) < (t.size : Int) := by omega
    clear hg01
    by_cases hlong : 4000 < ids.length
    · have hl1 : (200 : Int) < (ids.length : Int) := by omega
      have hl2 : (4000 : Int) < (ids.length : Int) := by omega
      have HL := As.mk hlong
      clear hn hlong hts
      go_enter Tryz.func8, Tryz.ntmps8
      go_wp2_with (first
        | (go_at_call 13; refine (HG.out _ HB0.out).mono ?_; rintro e w1 ⟨rfl, hb⟩; have HB1 := As.mk (bt_ HB0.out hb); have HK1 := As.mk ((hb.block _ (blk_lt HK0.out)).trans HK0.out); clear hb)
        | (go_at_call 30; refine (awake_any _).mono ?_; rintro e w2 ⟨rfl, hb⟩; have HB2 := As.mk (bt_ HB1.out hb); have HK2 := (hb.block _ (blk_lt HK1.out)).trans HK1.out; have d0 := cell_of (i := 0) HK2 rfl; have d1 := cell_of (i := 1) HK2 rfl; have d2 := cell_of (i := 2) HK2 rfl; have d3 := cell_of (i := 3) HK2 rfl; clear hb HK2)
        | (go_at_call 15; refine (HO.out _ HB2.out).mono ?_; rintro e w3 ⟨v, B0, D0, B3, B4, B5, e0, f0, e3, e4, e5, rfl, hv, href, hle, hb⟩; have HB3 := As.mk (bt_ HB2.out hb); have HLE := As.mk (Nat.le_trans HB2.out.size hle); have hba := below_alloc (Below.refl w3.heap.size w3) (.cells #[.slice B0 (bL (tabOf sp).1).length e0, .slice D0 (mL (tabOf sp).1).length f0, .slice B4 sp.C.length e4, .slice B5 sp.J.length e5, .slice B3 sp.X.length e3] 38); have HB4 := As.mk (below_alloc HB3.out (.cells #[.slice B0 (bL (tabOf sp).1).length e0, .slice D0 (mL (tabOf sp).1).length f0, .slice B4 sp.C.length e4, .slice B5 sp.J.length e5, .slice B3 sp.X.length e3] 38)); have HV4 := As.mk (hv.below hba).at_; have HF4 := As.mk (href.below hba); have HM4 := As.mk (Go.MapKept.heap_alloc w3 (.cells #[.slice B0 (bL (tabOf sp).1).length e0, .slice D0 (mL (tabOf sp).1).length f0, .slice B4 sp.C.length e4, .slice B5 sp.J.length e5, .slice B3 sp.X.length e3] 38)).1; clear hv href hle hb hba d0 d1 d2 d3 HB3)
        | (go_at_call 31; refine (held_any t (by have := HTS.out; omega) _).mono ?_; rintro e w5 ⟨rfl, hb⟩; have HB5 := As.mk (bt_ HB4.out hb); have HV5 := As.mk (HV4.out.below hb); have HF5 := As.mk (HF4.out.below hb); have HM5 := As.mk ((hb.block _ (blk_lt HM4.out)).trans HM4.out); clear hb HB4 HV4 HF4 HM4)
        | (go_at_call 32; refine (heldL_any t (by have := HTS.out; omega) _).mono ?_; rintro e w6 ⟨rfl, rfl⟩)
        | (go_at_call 33; refine (Text_long A c ids.length HL.out).mono ?_; rintro e w7 ⟨rfl, rfl⟩))
      go_ret
      exact ⟨rfl, HB5.out⟩
    · have hl1 : ¬ (200 : Int) < (ids.length : Int) := by omega
      have hl2 : ¬ (4000 : Int) < (ids.length : Int) := by omega
      have HL := As.mk (show ids.length ≤ 200 by omega)
      clear hn hlong hts
      have HIT := As.mk (itF_bad sp ids 0 [])
      have HTX := As.mk (show textF sp ids = if (itF sp ids 0 []).2.2 = 0 then rendS sp.X (itF sp ids 0 []).1 else ⟨#[]⟩ from rfl)
      have HIS := As.mk (fun (W : World) {v : Nat} {A0 B0 A3 A4 A5 : Option Addr} {c0 d0 c3 c4 c5 : Nat} (hf : RefAt W v A0 B0 A3 A4 A5 c0 d0 c3 c4 c5 sp) (hb : Below w.heap.size w W) => vitems_any hf HOK.out A c ids (Kd.C_below HR.out hb) HCC.out (by have := HL.out; omega))
      have HBA := As.mk (fun (W : World) {v : Nat} {A0 B0 A3 A4 A5 : Option Addr} {c0 d0 c3 c4 c5 : Nat} (hf : RefAt W v A0 B0 A3 A4 A5 c0 d0 c3 c4 c5 sp) (hb : Below w.heap.size w W) => vbad_any hf (by have := HOK.out.sp.nX; omega) A c ids (Kd.C_below HR.out hb) HCC.out (by have := HL.out; omega))
      unfold vV at HIS HBA
      cases hbad : badF sp ids with
      | some i =>
        rw [hbad] at HIT HBA
        simp only [Nat.zero_add] at HIT
        rw [HIT.out] at HTX
        have HTX' := As.mk (HTX.out.trans (if_neg (by show ¬ (4 : Int) = 0; decide)))
        clear hbad HIS HTX
        unfold badI at HBA
        simp only at HBA
        go_enter Tryz.func8, Tryz.ntmps8
        go_wp2_with (first
          | (go_at_call 13; refine (HG.out _ HB0.out).mono ?_; rintro e w1 ⟨rfl, hb⟩; have HB1 := As.mk (bt_ HB0.out hb); have HK1 := As.mk ((hb.block _ (blk_lt HK0.out)).trans HK0.out); clear hb)
          | (go_at_call 30; refine (awake_any _).mono ?_; rintro e w2 ⟨rfl, hb⟩; have HB2 := As.mk (bt_ HB1.out hb); have HK2 := (hb.block _ (blk_lt HK1.out)).trans HK1.out; have d0 := cell_of (i := 0) HK2 rfl; have d1 := cell_of (i := 1) HK2 rfl; have d2 := cell_of (i := 2) HK2 rfl; have d3 := cell_of (i := 3) HK2 rfl; clear hb HK2)
          | (go_at_call 15; refine (HO.out _ HB2.out).mono ?_; rintro e w3 ⟨v, B0, D0, B3, B4, B5, e0, f0, e3, e4, e5, rfl, hv, href, hle, hb⟩; have HB3 := As.mk (bt_ HB2.out hb); have HLE := As.mk (Nat.le_trans HB2.out.size hle); have hba := below_alloc (Below.refl w3.heap.size w3) (.cells #[.slice B0 (bL (tabOf sp).1).length e0, .slice D0 (mL (tabOf sp).1).length f0, .slice B4 sp.C.length e4, .slice B5 sp.J.length e5, .slice B3 sp.X.length e3] 38); have HB4 := As.mk (below_alloc HB3.out (.cells #[.slice B0 (bL (tabOf sp).1).length e0, .slice D0 (mL (tabOf sp).1).length f0, .slice B4 sp.C.length e4, .slice B5 sp.J.length e5, .slice B3 sp.X.length e3] 38)); have HV4 := As.mk (hv.below hba).at_; have HF4 := As.mk (href.below hba); have HM4 := As.mk (Go.MapKept.heap_alloc w3 (.cells #[.slice B0 (bL (tabOf sp).1).length e0, .slice D0 (mL (tabOf sp).1).length f0, .slice B4 sp.C.length e4, .slice B5 sp.J.length e5, .slice B3 sp.X.length e3] 38)).1; have HV3L := As.mk hv.lt; clear hv href hle hb hba d0 d1 d2 d3 HB3)
          | (go_at_call 31; refine (held_any t (by have := HTS.out; omega) _).mono ?_; rintro e w5 ⟨rfl, hb⟩; have HB5 := As.mk (bt_ HB4.out hb); have HV5 := As.mk (HV4.out.below hb); have HF5 := As.mk (HF4.out.below hb); have HM5 := As.mk ((hb.block _ (blk_lt HM4.out)).trans HM4.out); clear hb HB4 HV4 HF4 HM4)
          | (go_at_call 32; refine (heldL_any t (by have := HTS.out; omega) _).mono ?_; rintro e w6 ⟨rfl, rfl⟩)
          | (go_at_call 33; refine (Text_any HV5.out A c ids (fun m => Kd.C_below HR.out (HB5.out.setCell (p := ⟨v, 13, none⟩) HLE.out _)) (by have := HL.out; omega)).mono ?_; rw [HTX'.out, HIT.out]; rintro e w7 ⟨rfl, hu⟩; have HB7 := As.mk (HB5.out.trans (Used.under hu HLE.out HB5.out.size)); have HF7 := As.mk (HF5.out.used hu); have HM7 := As.mk ((blk_used hu HM5.out (Nat.ne_of_gt HV3L.out))); clear hu HF5; have m0 := cell_of (i := 0) HM7.out rfl; have m1 := cell_of (i := 1) HM7.out rfl; have m2 := cell_of (i := 2) HM7.out rfl; have m3 := cell_of (i := 3) HM7.out rfl; have m4 := cell_of (i := 4) HM7.out rfl)
          | (go_at_call 34; refine (HBA.out _ HF7.out HB7.out).mono ?_; rintro e w8 ⟨rfl, hb⟩; have HB8 := As.mk (bt_ HB7.out hb); clear hb))
        go_ret
        exact ⟨rfl, HB8.out⟩
      | none =>
        rw [hbad] at HIT HBA
        simp only [Nat.zero_add] at HIT
        rw [HIT.out] at HTX
        have HTX' := As.mk (HTX.out.trans (if_pos rfl))
        rw [List.nil_append] at HTX'
        have HI2 := As.mk (fun (W : World) {v : Nat} {A0 B0 A3 A4 A5 : Option Addr} {c0 d0 c3 c4 c5 : Nat} (hf : RefAt W v A0 B0 A3 A4 A5 c0 d0 c3 c4 c5 sp) (hb : Below w.heap.size w W) => HIS.out W hf hb hbad)
        have hil : (itL sp ids).length ≤ 1000000 := by
          have h1 := itF_len sp (fun id => itemsOf_len HOK.out id) ids 0 []
          rw [HIT.out] at h1
          simp only [List.nil_append, List.length_nil] at h1
          have h2 := HL.out
          omega
        have HIL := As.mk hil
        have HIDS := As.mk (show ((0 : Nat) + ids.length) = ids.length from Nat.zero_add _)
        clear hbad HIS HTX hil
        unfold badI at HBA
        simp only at HBA
        generalize itL sp ids = its at *
        generalize hrs : rendS sp.X its = rs at *
        have HRS := As.mk hrs
        clear hrs
        go_enter Tryz.func8, Tryz.ntmps8
        go_wp2_with (first
          | (go_at_call 13; refine (HG.out _ HB0.out).mono ?_; rintro e w1 ⟨rfl, hb⟩; have HB1 := As.mk (bt_ HB0.out hb); have HK1 := As.mk ((hb.block _ (blk_lt HK0.out)).trans HK0.out); clear hb)
          | (go_at_call 30; refine (awake_any _).mono ?_; rintro e w2 ⟨rfl, hb⟩; have HB2 := As.mk (bt_ HB1.out hb); have HK2 := (hb.block _ (blk_lt HK1.out)).trans HK1.out; have d0 := cell_of (i := 0) HK2 rfl; have d1 := cell_of (i := 1) HK2 rfl; have d2 := cell_of (i := 2) HK2 rfl; have d3 := cell_of (i := 3) HK2 rfl; clear hb HK2)
          | (go_at_call 15; refine (HO.out _ HB2.out).mono ?_; rintro e w3 ⟨v, B0, D0, B3, B4, B5, e0, f0, e3, e4, e5, rfl, hv, href, hle, hb⟩; have HB3 := As.mk (bt_ HB2.out hb); have HLE := As.mk (Nat.le_trans HB2.out.size hle); have hba := below_alloc (Below.refl w3.heap.size w3) (.cells #[.slice B0 (bL (tabOf sp).1).length e0, .slice D0 (mL (tabOf sp).1).length f0, .slice B4 sp.C.length e4, .slice B5 sp.J.length e5, .slice B3 sp.X.length e3] 38); have HB4 := As.mk (below_alloc HB3.out (.cells #[.slice B0 (bL (tabOf sp).1).length e0, .slice D0 (mL (tabOf sp).1).length f0, .slice B4 sp.C.length e4, .slice B5 sp.J.length e5, .slice B3 sp.X.length e3] 38)); have HV4 := As.mk (hv.below hba).at_; have HF4 := As.mk (href.below hba); have HGD := As.mk (VocAt.good hv.at_); have HM4 := As.mk (Go.MapKept.heap_alloc w3 (.cells #[.slice B0 (bL (tabOf sp).1).length e0, .slice D0 (mL (tabOf sp).1).length f0, .slice B4 sp.C.length e4, .slice B5 sp.J.length e5, .slice B3 sp.X.length e3] 38)).1; have HV3L := As.mk hv.lt; clear hv href hle hb hba d0 d1 d2 d3 HB3)
          | (go_at_call 31; refine (held_any t (by have := HTS.out; omega) _).mono ?_; rintro e w5 ⟨rfl, hb⟩; have HB5 := As.mk (bt_ HB4.out hb); have HV5 := As.mk (HV4.out.below hb); have HF5 := As.mk (HF4.out.below hb); have HM5 := As.mk ((hb.block _ (blk_lt HM4.out)).trans HM4.out); clear hb HB4 HV4 HF4 HM4)
          | (go_at_call 32; refine (heldL_any t (by have := HTS.out; omega) _).mono ?_; rintro e w6 ⟨rfl, rfl⟩)
          | (go_at_call 33; refine (Text_any HV5.out A c ids (fun m => Kd.C_below HR.out (HB5.out.setCell (p := ⟨v, 13, none⟩) HLE.out _)) (by have := HL.out; omega)).mono ?_; rw [HTX'.out, HIT.out, List.nil_append]; rintro e w7 ⟨rfl, hu⟩; have HB7 := As.mk (HB5.out.trans (Used.under hu HLE.out HB5.out.size)); have HF7 := As.mk (HF5.out.used hu); have HM7 := As.mk ((blk_used hu HM5.out (Nat.ne_of_gt HV3L.out))); clear hu HF5; have m0 := cell_of (i := 0) HM7.out rfl; have m1 := cell_of (i := 1) HM7.out rfl; have m2 := cell_of (i := 2) HM7.out rfl; have m3 := cell_of (i := 3) HM7.out rfl; have m4 := cell_of (i := 4) HM7.out rfl)
          | (go_at_call 34; refine (HBA.out _ HF7.out HB7.out).mono ?_; rintro e w8 ⟨rfl, hb⟩; have HB8 := As.mk (bt_ HB7.out hb); have HF8 := As.mk (HF7.out.below hb); have HM8 := As.mk ((hb.block _ (blk_lt HM7.out)).trans HM7.out); clear hb m0 m1 m2 m3 m4 HB7 HF7 HM7))
        refine start_ (n := 11) (S := fun w' => Below w8.heap.size w8 w') (ds := []) #[false, false, false, false, false, false, false, false, false, false, false] (by kernel_rfl) rfl rfl (below_drew1 (Below.refl _ _)) (fun hHeld => ?_)
        have HW9 := As.mk hHeld; clear hHeld; generalize w8.drew = w9 at HW9 ⊢; have hHeld := HW9.out
        refine pure_ (i := 0) (N := some 89) (v := ?_) (a' := ?_) #[true, false, false, false, false, false, false, false, false, false, false] rfl rfl (by kernel_rfl) (fun _ _ _ h => h) (Or.inl ⟨by rfl, ?_⟩) ?_ ?_
        rotate_left
        · intro w'
          go_simp
          with_reducible rfl
        rotate_left
        · simp only [Act.put, List.setIfInBounds_toArray, List.set_cons_zero, List.set_cons_succ, i64_w, i32_w]
          rfl
        refine pure_ (i := 3) (N := some 92) (v := ?_) (a' := ?_) #[true, false, false, true, false, false, false, false, false, false, false] rfl rfl (by kernel_rfl) (fun _ _ _ h => h) (Or.inl ⟨by rfl, ?_⟩) ?_ ?_
        rotate_left
        · intro w'
          go_simp
          with_reducible rfl
        rotate_left
        · simp only [Act.put, List.setIfInBounds_toArray, List.set_cons_zero, List.set_cons_succ, i64_w, i32_w]
          rfl
        refine take_ (i := 1) (N := some 90) (v := ?_) (a' := ?_) #[true, true, false, true, false, false, false, false, false, false, false] rfl rfl (by kernel_rfl) (fun _ _ _ h => h) (Or.inl ⟨by rfl, ?_⟩) hHeld ?_ ?_
        rotate_left
        · intro w' hS'
          have s0 := hS'
          have hm := (hS'.block _ (blk_lt HM8.out)).trans HM8.out; have m4 := cell_of (i := 4) hm rfl; go_simp
          with_reducible rfl
        rotate_left
        · simp only [Act.put, List.setIfInBounds_toArray, List.set_cons_zero, List.set_cons_succ, i64_w, i32_w]
          rfl
        refine take_ (i := 2) (N := some 91) (v := ?_) (a' := ?_) #[true, true, true, true, false, false, false, false, false, false, false] rfl rfl (by kernel_rfl) (fun _ _ _ h => h) (Or.inl ⟨by rfl, ?_⟩) hHeld ?_ ?_
        rotate_left
        · intro w' hS'
          have s0 := hS'
          have hm := (hS'.block _ (blk_lt HM8.out)).trans HM8.out; have m0 := cell_of (i := 0) hm rfl; have m1 := cell_of (i := 1) hm rfl; have m2 := cell_of (i := 2) hm rfl; have m3 := cell_of (i := 3) hm rfl; have m4 := cell_of (i := 4) hm rfl; go_simp
          with_reducible rfl
        rotate_left
        · simp only [Act.put, List.setIfInBounds_toArray, List.set_cons_zero, List.set_cons_succ, i64_w, i32_w]
          rfl
        refine one_ (i := 4) (N := some 93) #[true, true, true, true, true, false, false, false, false, false, false] rfl rfl (by kernel_rfl) (by decide) (fun K hK => ?_)
        refine goes_ Tryz.func36 (by kernel_rfl) rfl #[.agg #[.slice B0 (bL (tabOf sp).1).length e0, .slice D0 (mL (tabOf sp).1).length f0, .slice B4 sp.C.length e4, .slice B5 sp.J.length e5, .slice B3 sp.X.length e3], .slice A ids.length c] (by rfl) rfl rfl (by simp [Act.eval]) ?_
        refine (HI2.out _ (HF8.out.below HW9.out) (bt_ HB8.out HW9.out)).mono ?_
        rintro e w10 ⟨v0, rfl, ho, hb⟩
        obtain ⟨A6, c6, rfl⟩ := Kd.R_slice ho
        refine ⟨_, rfl, ?_⟩
        have HO10 := As.mk (Kd.R_reads' ho)
        have HW10 := As.mk (bt_ HW9.out hb)
        refine hK.out _ _ HW10.out (fun _ => ?_)
        clear hK K hb ho
        refine norm_ (a' := ?_) ?_ ?_
        rotate_left
        · (simp only [Act.put, List.setIfInBounds_toArray, List.set_cons_zero, List.set_cons_succ]; rfl)
        refine one_ (i := 5) (N := some 94) #[true, true, true, true, true, true, false, false, false, false, false] rfl rfl (by kernel_rfl) (by decide) (fun K hK => ?_)
        refine goes_ Tryz.func35 (by kernel_rfl) rfl #[.slice B3 sp.X.length e3, .slice A6 its.length c6] (by rfl) rfl rfl (by simp [Act.eval]) ?_
        have hx := (HF8.out.below HW10.out).X
        have hren := Mk.refRender_any B3 e3 sp.X A6 c6 its w10 (Kd.R_reads' hx).2.2 (Kd.R_reads' hx).2.1 HO10.out.2.2 HO10.out.2.1 HGD.out (by have := HIL.out; omega)
        rw [rendV_eq, HRS.out] at hren
        generalize (Mk.rendF (Mk.hasP sp.X) its).isSome = bS at hren
        refine hren.mono ?_
        clear hren
        rintro e w11 ⟨rfl, hb⟩
        refine ⟨_, rfl, ?_⟩
        have HW11 := As.mk (bt_ HW10.out hb)
        refine hK.out _ _ HW11.out (fun _ => ?_)
        clear hK K hb
        refine norm_ (a' := ?_) ?_ ?_
        rotate_left
        · (simp only [Act.put, List.setIfInBounds_toArray, List.set_cons_zero, List.set_cons_succ]; rfl)
        refine pure_ (i := 6) (N := some 88) (v := ?_) (a' := ?_) #[true, true, true, true, true, true, true, false, false, false, false] rfl rfl (by kernel_rfl) (fun _ _ _ h => h) (Or.inl ⟨by rfl, ?_⟩) ?_ ?_
        rotate_left
        · intro w'
          go_simp
          with_reducible rfl
        rotate_left
        · simp only [Act.put, List.setIfInBounds_toArray, List.set_cons_zero, List.set_cons_succ, i64_w, i32_w]
          rfl
        refine pure_ (i := 7) (N := some 95) (v := ?_) (a' := ?_) #[true, true, true, true, true, true, true, true, false, false, false] rfl rfl (by kernel_rfl) (fun _ _ _ h => h) (Or.inl ⟨by rfl, ?_⟩) ?_ ?_
        rotate_left
        · intro w'
          go_simp
          with_reducible rfl
        rotate_left
        · simp only [Act.put, List.setIfInBounds_toArray, List.set_cons_zero, List.set_cons_succ, i64_w, i32_w]
          rfl
        refine pure_ (i := 8) (N := some 96) (v := ?_) (a' := ?_) #[true, true, true, true, true, true, true, true, true, false, false] rfl rfl (by kernel_rfl) (fun _ _ _ h => h) (Or.inl ⟨by rfl, ?_⟩) ?_ ?_
        rotate_left
        · intro w'
          go_simp
          with_reducible rfl
        rotate_left
        · simp only [Act.put, List.setIfInBounds_toArray, List.set_cons_zero, List.set_cons_succ, i64_w, i32_w]
          rfl
        refine pure_ (i := 9) (N := some 13) (v := ?_) (a' := ?_) #[true, true, true, true, true, true, true, true, true, true, false] rfl rfl (by kernel_rfl) (fun _ _ _ h => h) (Or.inl ⟨by rfl, ?_⟩) ?_ ?_
        rotate_left
        · intro w'
          go_simp
          with_reducible rfl
        rotate_left
        · simp only [Act.put, List.setIfInBounds_toArray, List.set_cons_zero, List.set_cons_succ, i64_w, i32_w]
          rfl
        refine pure_ (i := 10) (N := some 14) (v := ?_) (a' := ?_) #[true, true, true, true, true, true, true, true, true, true, true] rfl rfl (by kernel_rfl) (fun _ _ _ h => h) (Or.inl ⟨by rfl, ?_⟩) ?_ ?_
        rotate_left
        · intro w'
          go_simp
          with_reducible rfl
        rotate_left
        · simp only [Act.put, List.setIfInBounds_toArray, List.set_cons_zero, List.set_cons_succ, i64_w, i32_w]
          rfl
        refine done_ (by kernel_rfl) ?_
        go_wp2
        go_ret
        exact ⟨rfl, bt_ HB8.out HW11.out⟩
end Go.Proofs.YtkffhgiiejbnaaaGreat.Rt
