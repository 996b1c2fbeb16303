import Derived.BigQuiet
import Derived.Test.YtkffhgiiejbnaaaGreatQDecU
set_option linter.unusedVariables false
set_option linter.unusedSimpArgs false
namespace Go.Proofs.YtkffhgiiejbnaaaGreat.Rt
open Go.RowKit Go.Proofs.YtkffhgiiejbnaaaGreatW.PrintWords Go.Proofs.YtkffhgiiejbnaaaGreatW.PrintLast Go.Proofs.YtkffhgiiejbnaaaGreatW.PrintMore Go.Proofs.YtkffhgiiejbnaaaGreat.Rf Go.Proofs.YtkffhgiiejbnaaaGreat.Aid Go.Proofs.YtkffhgiiejbnaaaGreat.Mp Go.Proofs.YtkffhgiiejbnaaaGreat.Hp Go.Proofs.YtkffhgiiejbnaaaGreat.Tk Go.Proofs.YtkffhgiiejbnaaaGreat.Vc Go.Proofs.YtkffhgiiejbnaaaGreat.Dc
set_option linter.unusedVariables false
set_option linter.unusedSimpArgs false
set_option maxHeartbeats 400000
set_option maxRecDepth 100000 in
set_option maxHeartbeats 4000000 in
theorem decodeFeeds_any {A0 A1 A2 A3 : Option Addr} {c0 c1 c2 c3 : Nat} {L : List Int} {C : List S165} {J : List S108} {X : List S93} {w : World} (h : CaseAt w A0 A1 A2 A3 c0 c1 c2 c3 L C J X) (A : Option Addr) (c : Nat) (l : List (List Int)) (hr : Kd.C (Kd.slice 3 (Kd.int .i64)) w A l.length l) :
    Calls Tryz.prog 11 #[caseV A0 A1 A2 A3 c0 c1 c2 c3 L C J X, .slice A l.length c] w fun e w' => e = .returned (.bool true) ∧ Below w.heap.size w w' := by
  obtain ⟨g, hg01, hG⟩ := great_any h
  have HG := As.mk hG
  have HC := As.mk h
  have HR := As.mk hr
  have HLI := As.mk hr.2.1
  clear hG h hr
  have HB0 := As.mk (below_alloc (Below.refl w.heap.size w) (.cells #[.slice A0 L.length c0, .slice A1 C.length c1, .slice A2 J.length c2, .slice A3 X.length c3] 27))
  have HK0 := As.mk (Go.MapKept.heap_alloc w (.cells #[.slice A0 L.length c0, .slice A1 C.length c1, .slice A2 J.length c2, .slice A3 X.length c3] 27)).1
  unfold caseV at HG ⊢
  have hcase : (g = 1 ∨ (g = 0 ∧ (20 : Int) < (l.length : Int))) ∨ (g = 0 ∧ (l.length : Int) ≤ 20) := by omega
  rcases hcase with (rfl | ⟨rfl, h1⟩) | ⟨rfl, hlen⟩
  · go_enter Tryz.func11, Tryz.ntmps11
    go_wp2_with (first | (go_at_call 13; refine (HG.out _ HB0.out).mono ?_; rintro e w1 ⟨rfl, hb⟩; have HB1 := As.mk (bt_ HB0.out hb); have HK1 := As.mk ((hb.block _ (blk_lt HK0.out)).trans HK0.out); clear hb) | (go_at_call 30; refine (awake_any _).mono ?_; rintro e w2 ⟨rfl, hb⟩; have HB2 := As.mk (bt_ HB1.out hb); clear hb))
    go_ret
    exact ⟨rfl, HB2.out⟩
  · go_enter Tryz.func11, Tryz.ntmps11
    go_wp2_with (first | (go_at_call 13; refine (HG.out _ HB0.out).mono ?_; rintro e w1 ⟨rfl, hb⟩; have HB1 := As.mk (bt_ HB0.out hb); have HK1 := As.mk ((hb.block _ (blk_lt HK0.out)).trans HK0.out); clear hb) | (go_at_call 30; refine (awake_any _).mono ?_; rintro e w2 ⟨rfl, hb⟩; have HB2 := As.mk (bt_ HB1.out hb); clear hb))
    go_ret
    exact ⟨rfl, HB2.out⟩
  · have HO := As.mk (fun (W : World) (hb : Below w.heap.size w W) => of_any (HC.out.below hb))
    have HOK := As.mk (some_ok L C J X)
    unfold caseV at HO
    generalize someS L C J X = sp at HO HOK
    unfold vV at HO
    have HLN := As.mk (show l.length ≤ 20 by omega)
    clear hg01
    go_enter Tryz.func11, Tryz.ntmps11
    go_wp2_with (first
      | (go_at_call 13; refine (HG.out _ HB0.out).mono ?_; rintro e w1 ⟨rfl, hb⟩; have HB1 := As.mk (bt_ HB0.out hb); have HK1 := As.mk ((hb.block _ (blk_lt HK0.out)).trans HK0.out); clear hb)
      | (go_at_call 30; refine (awake_any _).mono ?_; rintro e w2 ⟨rfl, hb⟩; have HB2 := As.mk (bt_ HB1.out hb); have HK2 := (hb.block _ (blk_lt HK1.out)).trans HK1.out; have d0 := cell_of (i := 0) HK2 rfl; have d1 := cell_of (i := 1) HK2 rfl; have d2 := cell_of (i := 2) HK2 rfl; have d3 := cell_of (i := 3) HK2 rfl; clear hb HK2)
      | (go_at_call 15; refine (HO.out _ HB2.out).mono ?_; rintro e w3 ⟨v, B0, D0, B3, B4, B5, e0, f0, e3, e4, e5, rfl, hv, href, hle, hb⟩; have HB3 := As.mk (bt_ HB2.out hb); have HLE := As.mk (Nat.le_trans HB2.out.size hle); have hba := below_alloc (Below.refl w3.heap.size w3) (.cells #[.slice B0 (bL (tabOf sp).1).length e0, .slice D0 (mL (tabOf sp).1).length f0, .slice B4 sp.C.length e4, .slice B5 sp.J.length e5, .slice B3 sp.X.length e3] 38); have HB4 := As.mk (below_alloc HB3.out (.cells #[.slice B0 (bL (tabOf sp).1).length e0, .slice D0 (mL (tabOf sp).1).length f0, .slice B4 sp.C.length e4, .slice B5 sp.J.length e5, .slice B3 sp.X.length e3] 38)); have HV4 := As.mk (hv.below hba); have HV3L := As.mk hv.lt; have HF4 := As.mk (href.below hba); have HGD := As.mk (VocAt.good hv.at_); have HM4 := As.mk (Go.MapKept.heap_alloc w3 (.cells #[.slice B0 (bL (tabOf sp).1).length e0, .slice D0 (mL (tabOf sp).1).length f0, .slice B4 sp.C.length e4, .slice B5 sp.J.length e5, .slice B3 sp.X.length e3] 38)).1; clear hv href hle hb hba d0 d1 d2 d3 HB3)
      | (go_at_call 44; refine (Dc.new_any v _).mono ?_; rintro e w5 ⟨d, rfl, hd, hD, hb⟩; have HD5 := As.mk hD; have HB5 := As.mk (bt_ HB4.out hb); have HV5 := As.mk (HV4.out.below hb); have HF5 := As.mk (HF4.out.below hb); have HM5 := As.mk ((hb.block _ (blk_lt HM4.out)).trans HM4.out); have HDD := As.mk (show v < d ∧ w3.heap.size < d from by have h1 := HV3L.out; have h2 := hd; simp at h2; omega); clear hd hD hb HB4 HV4 HF4 HM4))
    go_loopg [8, 9, 10] l.length (fun k v8 v9 v10 w' => ∃ (i : Nat) (all : ByteArray), v8 = .string all ∧ v9 = .int .i64 ((all.size - heldF all : Nat) : Int) ∧ v10 = .int .i64 i ∧ i ≤ l.length ∧ As (all.size ≤ 500000 * i) ∧ As (DecAt w' d v (tailB all (heldF all)) (all.size - heldF all)) ∧ As (VocO w2.heap.size w' v sp) ∧ As (RefAt w' v B0 D0 B3 B4 B5 e0 f0 e3 e4 e5 sp) ∧ As (w'.heap[w3.heap.size]? = some (.cells #[.slice B0 (bL (tabOf sp).1).length e0, .slice D0 (mL (tabOf sp).1).length f0, .slice B4 sp.C.length e4, .slice B5 sp.J.length e5, .slice B3 sp.X.length e3] 38 (0, 0))) ∧ As (l.length - i ≤ k) ∧ As (Below w.heap.size w w'))
    case atStart => exact ⟨0, ⟨#[]⟩, rfl, by kernel_rfl, rfl, by omega, ⟨by show 0 ≤ _; omega⟩, HD5, HV5, HF5, HM5, ⟨by omega⟩, HB5⟩
    case round =>
      clear HD5 HV5 HF5 HM5 HB5
      obtain ⟨i, all, rfl, rfl, rfl, hi, HS, HD, HV, HF, HM, HK, HB⟩ := hrel
      by_cases hlt : i < l.length
      · obtain ⟨k1, rfl⟩ : ∃ k1, gk = k1 + 1 := ⟨gk - 1, by have := HK.out; omega⟩
        obtain ⟨ad, Ai, ci, hA, x0, hci, hCi⟩ := at_sl HR.out hlt
        subst hA
        have xr := pw_cell_below HB.out x0
        have HI := As.mk hCi
        have HCI := As.mk hci
        have hltI : (i : Int) < (l.length : Int) := by omega
        have HLT := As.mk hlt
        generalize l[i] = ids at *
        clear hCi hci hlt
        by_cases hbig : 100 < ids.length
        · have hbigI : (100 : Int) < (ids.length : Int) := by omega
          clear x0
          go_wp2
          go_ret
          exact ⟨rfl, HB.out⟩
        · have hbigI : ¬ (100 : Int) < (ids.length : Int) := by omega
          have HBG := As.mk (show ids.length ≤ 100 by omega)
          have hIT := itF_bad sp ids 0 []
          have HIT := As.mk hIT
          clear hIT hbig
          have HAR := As.mk (fun m : Int => Kd.C_below HI.out (HB.out.setCell (p := ⟨v, 13, none⟩) HLE.out (.int .i64 m)))
          have HBA := As.mk (fun (W : World) {v : Nat} {A0 B0 A3 A4 A5 : Option Addr} {c0 d0 c3 c4 c5 : Nat} (hf : RefAt W v A0 B0 A3 A4 A5 c0 d0 c3 c4 c5 sp) (hb : Below w.heap.size w W) => vbad_any hf (by have := HOK.out.sp.nX; omega) Ai ci ids (Kd.C_below HI.out hb) HCI.out (by have := HBG.out; omega))
          unfold vV at HBA
          cases hbad : badF sp ids with
          | some n =>
            rw [hbad] at HIT HBA
            simp only [Nat.zero_add] at HIT
            unfold badI at HBA
            simp only at HBA
            have HA := As.mk (feed_bad HD.out HV.out.at_ HDD.out.1 Ai ci ids HAR.out (by have := HBG.out; omega) HIT.out)
            clear hbad HIT
            go_wp2_with (go_at_call 45; refine HA.out.mono ?_; rintro e w6 ⟨rfl, hD6, hu⟩; have HD6 := As.mk hD6; have HB6 := As.mk (HB.out.trans (Used.under hu HLE.out HB.out.size)); have HV6 := As.mk (HV.out.used hu); have HF6 := As.mk (HF.out.used hu); have HM6 := As.mk (blk_used hu HM.out (Nat.ne_of_gt HV3L.out)); clear hu hD6 HA HAR HB HD HV HF HM xr)
            refine start_ (n := 7) (S := fun w' => Below w6.heap.size w6 w') (ds := []) #[false, false, false, false, false, false, false] (by kernel_rfl) rfl rfl (below_drew1 (Below.refl _ _)) (fun hHeld => ?_)
            have HW7 := As.mk hHeld; clear hHeld; generalize w6.drew = w7 at HW7 ⊢; have hHeld := HW7.out
            refine pure_ (i := 1) (N := some 67) (v := ?_) (a' := ?_) #[false, true, false, false, false, false, false] rfl rfl (by kernel_rfl) (fun _ _ _ h => h) (Or.inl ⟨by rfl, ?_⟩) ?_ ?_
            rotate_left
            · intro w'
              go_simp
              with_reducible rfl
            rotate_left
            · simp only [Act.put, List.setIfInBounds_toArray, List.set_cons_zero, List.set_cons_succ, i64_w, i32_w]
              rfl
            refine pure_ (i := 2) (N := some 68) (v := ?_) (a' := ?_) #[false, true, true, false, false, false, false] rfl rfl (by kernel_rfl) (fun _ _ _ h => h) (Or.inl ⟨by rfl, ?_⟩) ?_ ?_
            rotate_left
            · intro w'
              go_simp
              with_reducible rfl
            rotate_left
            · simp only [Act.put, List.setIfInBounds_toArray, List.set_cons_zero, List.set_cons_succ, i64_w, i32_w]
              rfl
            refine pure_ (i := 3) (N := some 69) (v := ?_) (a' := ?_) #[false, true, true, true, false, false, false] rfl rfl (by kernel_rfl) (fun _ _ _ h => h) (Or.inl ⟨by rfl, ?_⟩) ?_ ?_
            rotate_left
            · intro w'
              go_simp
              with_reducible rfl
            rotate_left
            · simp only [Act.put, List.setIfInBounds_toArray, List.set_cons_zero, List.set_cons_succ, i64_w, i32_w]
              rfl
            refine take_ (i := 0) (N := some 66) (v := ?_) (a' := ?_) #[true, true, true, true, false, false, false] rfl rfl (by kernel_rfl) (fun _ _ _ h => h) (Or.inl ⟨by rfl, ?_⟩) hHeld ?_ ?_
            rotate_left
            · intro w' hS'
              have s0 := hS'
              have hm := (hS'.block _ (blk_lt HM6.out)).trans HM6.out; have m0 := Vc.cell_of (i := 0) hm rfl; have m1 := Vc.cell_of (i := 1) hm rfl; have m2 := Vc.cell_of (i := 2) hm rfl; have m3 := Vc.cell_of (i := 3) hm rfl; have m4 := Vc.cell_of (i := 4) hm rfl; go_simp
              with_reducible rfl
            rotate_left
            · simp only [Act.put, List.setIfInBounds_toArray, List.set_cons_zero, List.set_cons_succ, i64_w, i32_w]
              rfl
            refine take_ (i := 4) (N := some 70) (v := ?_) (a' := ?_) #[true, true, true, true, true, false, false] rfl rfl (by kernel_rfl) (fun _ _ _ h => h) (Or.inl ⟨by rfl, ?_⟩) hHeld ?_ ?_
            rotate_left
            · intro w' hS'
              have s0 := hS'
              have y0 := pw_cell_below (bt_ HB6.out hS') x0; go_simp
              with_reducible rfl
            rotate_left
            · simp only [Act.put, List.setIfInBounds_toArray, List.set_cons_zero, List.set_cons_succ, i64_w, i32_w]
              rfl
            refine one_ (i := 5) (N := some 71) #[true, true, true, true, true, true, false] rfl rfl (by kernel_rfl) (by decide) (fun K hK => ?_)
            refine goes_ Tryz.func34 (by kernel_rfl) rfl #[.agg #[.slice B0 (bL (tabOf sp).1).length e0, .slice D0 (mL (tabOf sp).1).length f0, .slice B4 sp.C.length e4, .slice B5 sp.J.length e5, .slice B3 sp.X.length e3], .slice Ai ids.length ci] (by rfl) rfl rfl (by simp [Act.eval]) ?_
            refine (HBA.out _ (HF6.out.below HW7.out) (bt_ HB6.out HW7.out)).mono ?_
            rintro e w8 ⟨rfl, hb⟩
            refine ⟨_, rfl, ?_⟩
            have HW8 := As.mk (bt_ HW7.out hb)
            refine hK.out _ _ HW8.out (fun _ => ?_)
            clear hK K hb
            refine norm_ (a' := ?_) ?_ ?_
            rotate_left
            · (simp only [Act.put, List.setIfInBounds_toArray, List.set_cons_zero, List.set_cons_succ]; rfl)
            refine pure_ (i := 6) (N := some 14) (v := ?_) (a' := ?_) #[true, true, true, true, true, true, true] rfl rfl (by kernel_rfl) (fun _ _ _ h => h) (Or.inl ⟨by rfl, ?_⟩) ?_ ?_
            rotate_left
            · intro w'
              go_simp
              with_reducible rfl
            rotate_left
            · simp only [Act.put, List.setIfInBounds_toArray, List.set_cons_zero, List.set_cons_succ, i64_w, i32_w]
              rfl
            refine done_ (by kernel_rfl) ?_
            have HB8 := As.mk (bt_ HB6.out HW8.out)
            have HD8 := As.mk (HD6.out.below HW8.out)
            have HV8 := As.mk (HV6.out.below HW8.out)
            have HF8 := As.mk (HF6.out.below HW8.out)
            have HM8 := As.mk ((HW8.out.block _ (blk_lt HM6.out)).trans HM6.out)
            clear HB6 HD6 HV6 HF6 HM6 HW7 HW8 HBA
            go_wp2
            go_roundg k1
            case measure => omega
            case rel => exact ⟨i + 1, all, rfl, rfl, by go_num, by have := HLT.out; omega, ⟨by have := HS.out; omega⟩, HD8, HV8, HF8, HM8, ⟨by have := HK.out; omega⟩, HB8⟩
          | none =>
            rw [hbad] at HIT HBA
            simp only [Nat.zero_add, List.nil_append] at HIT
            unfold badI at HBA
            simp only at HBA
            have HIS := As.mk (fun (W : World) {v : Nat} {A0 B0 A3 A4 A5 : Option Addr} {c0 d0 c3 c4 c5 : Nat} (hf : RefAt W v A0 B0 A3 A4 A5 c0 d0 c3 c4 c5 sp) (hb : Below w.heap.size w W) => vitems_any hf HOK.out Ai ci ids (Kd.C_below HI.out hb) HCI.out (by have := HBG.out; omega) hbad)
            unfold vV at HIS
            have hil : (itL sp ids).length ≤ 6400 := by
              have h1 := itF_len sp (fun id => itemsOf_len HOK.out id) ids 0 []
              rw [HIT.out] at h1
              simp only [List.length_nil] at h1
              have h2 := HBG.out
              omega
            have HIL := As.mk hil
            have htx : textF sp ids = rendS sp.X (itL sp ids) := by unfold textF; rw [HIT.out, if_pos rfl]
            have hts := rendS_len HGD.out (itL sp ids)
            rw [← htx] at hts
            obtain ⟨q, p1, p2, p3, p4⟩ := pass_plain all (textF sp ids)
            have htl := tailB_size (heldF_le all)
            have hh3 : heldF all ≤ all.size := heldF_le all
            have hsb : all.size ≤ 10000000 := by have h1 := HS.out; have h2 := HLN.out; omega
            have hbs : (tailB all (heldF all) ++ textF sp ids).size ≤ 1000000000 := by rw [ByteArray.size_append, htl]; omega
            have hA := feed_own HD.out HV.out.at_ HDD.out.1 Ai ci ids HAR.out (by have := HBG.out; omega) (by rw [HIT.out]) q p1 hbs (by omega)
            rw [p2, p3, p4, HIT.out] at hA
            have HA := As.mk hA
            have HRS := As.mk (show rendS sp.X (itL sp ids) = textF sp ids from htx.symm)
            have hK' := heldF_le (all ++ textF sp ids)
            have htz : (tailB (all ++ textF sp ids) (heldF (all ++ textF sp ids))).size = heldF (all ++ textF sp ids) := tailB_size hK'
            have hal : (all ++ textF sp ids).size = all.size + (textF sp ids).size := ByteArray.size_append
            have htb : (textF sp ids).size ≤ 500000 := by have := HIL.out; omega
            have hle4 : all.size - heldF all ≤ (all ++ textF sp ids).size - heldF (all ++ textF sp ids) := by omega
            have hbig9 : ¬ 9223372036854775807 < all.size + (textF sp ids).size := by omega
            clear hbad htx p1 p2 p3 p4 hA hbs htl hil
            generalize itL sp ids = its at *
            generalize textF sp ids = t at *
            obtain ⟨all', hall⟩ : ∃ all', all' = all ++ t := ⟨_, rfl⟩
            rw [← hall] at HA htz hK' hal hle4
            have hxx : all ++ t = all' := hall.symm
            have HTZ := As.mk htz
            have HSZ := As.mk (And.intro hal (And.intro htb (And.intro hsb hK')))
            have HLI' := As.mk (fun W => heldL_any all' (by omega) W)
            clear hall htz hts hh3
            have hNb : (all'.size : Int) ≤ 1000000000 := by omega
            have hk1 : ((heldF all' : Nat) : Int) ≤ (all'.size : Int) := by omega
            obtain ⟨T, hT⟩ : ∃ T, T = all'.size - heldF all' := ⟨_, rfl⟩
            rw [← hT] at HA
            have hTI : (all'.size : Int) - ((heldF all' : Nat) : Int) = (T : Int) := by omega
            have hT0 : (T : Int) ≤ (all'.size : Int) := by omega
            have htold : ((all.size - heldF all : Nat) : Int) ≤ (T : Int) := by omega
            have hTn : T ≤ all'.size := by omega
            have htn : all.size - heldF all ≤ T := by omega
            have hsl : ∀ W : World, (Instr.slice 9 (.string all') (some (.int .i64 ((all.size - heldF all : Nat) : Int))) (some (.int .i64 (T : Int))) none).run Tryz.prog W = .ok (.string (all'.extract (all.size - heldF all) T)) W := fun W => by
              simp [Instr.slice, run_underlying Tryz.underlying9, go_sem, Result.andThen, htold, hT0, htn, hTn]
            have hgoal := HTZ.out
            obtain ⟨told, htd⟩ : ∃ told, told = all.size - heldF all := ⟨_, rfl⟩
            rw [← htd] at hsl htold htn hle4 HA ⊢
            generalize all'.extract told T = P at *
            have HTD := As.mk (And.intro hT (And.intro hTn (And.intro hle4 htd)))
            clear hgoal hT htn hTn hle4 htd hK' hal htb hsb
            have HKK := As.mk (show heldF all' = heldF all' from rfl)
            generalize hkk : heldF all' = kk at *
            replace HKK := As.mk hkk
            clear hkk
            go_wp2_with (go_at_call 45; refine HA.out.mono ?_; rintro e w6 ⟨rfl, hD6, W, u0, u3, hu, ⟨cs6, hW⟩, hw⟩; have HD6 := As.mk hD6; have HB6 := As.mk (show Below w.heap.size w w6 from by rw [hw]; exact ((HB.out.trans (Used.under hu HLE.out HB.out.size)).setCell (p := ⟨d, 0, none⟩) (Nat.le_trans HLE.out (Nat.le_of_lt HDD.out.1)) _).setCell (p := ⟨d, 3, none⟩) (Nat.le_trans HLE.out (Nat.le_of_lt HDD.out.1)) _); have HV6 := As.mk (show VocO w2.heap.size w6 v sp from by rw [hw]; exact VocO_high (VocO_high (HV.out.used hu) (a := ⟨d, 0, none⟩) HDD.out.1 _) (a := ⟨d, 3, none⟩) HDD.out.1 _); have HF6 := As.mk (show RefAt w6 v B0 D0 B3 B4 B5 e0 f0 e3 e4 e5 sp from by rw [hw]; exact RefAt_dec (RefAt_dec (HF.out.used hu) hW 0 _) (blk_set hW 0 _) 3 _); have HM6 := As.mk (show w6.heap[w3.heap.size]? = some (.cells #[.slice B0 (bL (tabOf sp).1).length e0, .slice D0 (mL (tabOf sp).1).length f0, .slice B4 sp.C.length e4, .slice B5 sp.J.length e5, .slice B3 sp.X.length e3] 38 (0, 0)) from by rw [hw]; exact blk_far (blk_far (blk_used hu HM.out (Nat.ne_of_gt HV3L.out)) (p := ⟨d, 0, none⟩) (Nat.ne_of_lt HDD.out.2) _) (p := ⟨d, 3, none⟩) (Nat.ne_of_lt HDD.out.2) _); clear hu hD6 hW hw HA HAR HB HD HV HF HM xr)
            refine start_ (n := 7) (S := fun w' => Below w6.heap.size w6 w') (ds := []) #[false, false, false, false, false, false, false] (by kernel_rfl) rfl rfl (below_drew1 (Below.refl _ _)) (fun hHeld => ?_)
            have HW7 := As.mk hHeld; clear hHeld; generalize w6.drew = w7 at HW7 ⊢; have hHeld := HW7.out
            refine pure_ (i := 1) (N := some 67) (v := ?_) (a' := ?_) #[false, true, false, false, false, false, false] rfl rfl (by kernel_rfl) (fun _ _ _ h => h) (Or.inl ⟨by rfl, ?_⟩) ?_ ?_
            rotate_left
            · intro w'
              go_simp
              with_reducible rfl
            rotate_left
            · simp only [Act.put, List.setIfInBounds_toArray, List.set_cons_zero, List.set_cons_succ, i64_w, i32_w]
              rfl
            refine pure_ (i := 2) (N := some 68) (v := ?_) (a' := ?_) #[false, true, true, false, false, false, false] rfl rfl (by kernel_rfl) (fun _ _ _ h => h) (Or.inl ⟨by rfl, ?_⟩) ?_ ?_
            rotate_left
            · intro w'
              go_simp
              with_reducible rfl
            rotate_left
            · simp only [Act.put, List.setIfInBounds_toArray, List.set_cons_zero, List.set_cons_succ, i64_w, i32_w]
              rfl
            refine pure_ (i := 3) (N := some 69) (v := ?_) (a' := ?_) #[false, true, true, true, false, false, false] rfl rfl (by kernel_rfl) (fun _ _ _ h => h) (Or.inl ⟨by rfl, ?_⟩) ?_ ?_
            rotate_left
            · intro w'
              go_simp
              with_reducible rfl
            rotate_left
            · simp only [Act.put, List.setIfInBounds_toArray, List.set_cons_zero, List.set_cons_succ, i64_w, i32_w]
              rfl
            refine take_ (i := 0) (N := some 66) (v := ?_) (a' := ?_) #[true, true, true, true, false, false, false] rfl rfl (by kernel_rfl) (fun _ _ _ h => h) (Or.inl ⟨by rfl, ?_⟩) hHeld ?_ ?_
            rotate_left
            · intro w' hS'
              have s0 := hS'
              have hm := (hS'.block _ (blk_lt HM6.out)).trans HM6.out; have m0 := Vc.cell_of (i := 0) hm rfl; have m1 := Vc.cell_of (i := 1) hm rfl; have m2 := Vc.cell_of (i := 2) hm rfl; have m3 := Vc.cell_of (i := 3) hm rfl; have m4 := Vc.cell_of (i := 4) hm rfl; go_simp
              with_reducible rfl
            rotate_left
            · simp only [Act.put, List.setIfInBounds_toArray, List.set_cons_zero, List.set_cons_succ, i64_w, i32_w]
              rfl
            refine take_ (i := 4) (N := some 70) (v := ?_) (a' := ?_) #[true, true, true, true, true, false, false] rfl rfl (by kernel_rfl) (fun _ _ _ h => h) (Or.inl ⟨by rfl, ?_⟩) hHeld ?_ ?_
            rotate_left
            · intro w' hS'
              have s0 := hS'
              have y0 := pw_cell_below (bt_ HB6.out hS') x0; go_simp
              with_reducible rfl
            rotate_left
            · simp only [Act.put, List.setIfInBounds_toArray, List.set_cons_zero, List.set_cons_succ, i64_w, i32_w]
              rfl
            refine one_ (i := 5) (N := some 71) #[true, true, true, true, true, true, false] rfl rfl (by kernel_rfl) (by decide) (fun K hK => ?_)
            refine goes_ Tryz.func34 (by kernel_rfl) rfl #[.agg #[.slice B0 (bL (tabOf sp).1).length e0, .slice D0 (mL (tabOf sp).1).length f0, .slice B4 sp.C.length e4, .slice B5 sp.J.length e5, .slice B3 sp.X.length e3], .slice Ai ids.length ci] (by rfl) rfl rfl (by simp [Act.eval]) ?_
            refine (HBA.out _ (HF6.out.below HW7.out) (bt_ HB6.out HW7.out)).mono ?_
            rintro e w8 ⟨rfl, hb⟩
            refine ⟨_, rfl, ?_⟩
            have HW8 := As.mk (bt_ HW7.out hb)
            refine hK.out _ _ HW8.out (fun _ => ?_)
            clear hK K hb
            refine norm_ (a' := ?_) ?_ ?_
            rotate_left
            · (simp only [Act.put, List.setIfInBounds_toArray, List.set_cons_zero, List.set_cons_succ]; rfl)
            refine pure_ (i := 6) (N := some 14) (v := ?_) (a' := ?_) #[true, true, true, true, true, true, true] rfl rfl (by kernel_rfl) (fun _ _ _ h => h) (Or.inl ⟨by rfl, ?_⟩) ?_ ?_
            rotate_left
            · intro w'
              go_simp
              with_reducible rfl
            rotate_left
            · simp only [Act.put, List.setIfInBounds_toArray, List.set_cons_zero, List.set_cons_succ, i64_w, i32_w]
              rfl
            refine done_ (by kernel_rfl) ?_
            have HB8 := As.mk (bt_ HB6.out HW8.out)
            have HD8 := As.mk (HD6.out.below HW8.out)
            have HV8 := As.mk (HV6.out.below HW8.out)
            have HF8 := As.mk (HF6.out.below HW8.out)
            have HM8 := As.mk ((HW8.out.block _ (blk_lt HM6.out)).trans HM6.out)
            clear HB6 HD6 HV6 HF6 HM6 HW7 HW8 HBA
            go_wp2
            refine start_ (n := 14) (S := fun w' => Below w8.heap.size w8 w') (ds := []) #[false, false, false, false, false, false, false, false, false, false, false, false, false, false] (by kernel_rfl) rfl rfl (below_drew1 (Below.refl _ _)) (fun hHeld => ?_)
            have HW9 := As.mk hHeld; clear hHeld; generalize w8.drew = w9 at HW9 ⊢; have hHeld := HW9.out
            refine pure_ (i := 0) (N := some 86) (v := ?_) (a' := ?_) #[true, false, false, false, false, false, false, false, false, false, false, false, false, false] rfl rfl (by kernel_rfl) (fun _ _ _ h => h) (Or.inl ⟨by rfl, ?_⟩) ?_ ?_
            rotate_left
            · intro w'
              go_simp
              with_reducible rfl
            rotate_left
            · simp only [Act.put, List.setIfInBounds_toArray, List.set_cons_zero, List.set_cons_succ, i64_w, i32_w]
              rfl
            refine pure_ (i := 3) (N := some 89) (v := ?_) (a' := ?_) #[true, false, false, true, false, false, false, false, false, false, false, false, false, false] rfl rfl (by kernel_rfl) (fun _ _ _ h => h) (Or.inl ⟨by rfl, ?_⟩) ?_ ?_
            rotate_left
            · intro w'
              go_simp
              with_reducible rfl
            rotate_left
            · simp only [Act.put, List.setIfInBounds_toArray, List.set_cons_zero, List.set_cons_succ, i64_w, i32_w]
              rfl
            refine pure_ (i := 4) (N := some 90) (v := ?_) (a' := ?_) #[true, false, false, true, true, false, false, false, false, false, false, false, false, false] rfl rfl (by kernel_rfl) (fun _ _ _ h => h) (Or.inl ⟨by rfl, ?_⟩) ?_ ?_
            rotate_left
            · intro w'
              go_simp
              with_reducible rfl
            rotate_left
            · simp only [Act.put, List.setIfInBounds_toArray, List.set_cons_zero, List.set_cons_succ, i64_w, i32_w]
              rfl
            refine pure_ (i := 5) (N := some 91) (v := ?_) (a' := ?_) #[true, false, false, true, true, true, false, false, false, false, false, false, false, false] rfl rfl (by kernel_rfl) (fun _ _ _ h => h) (Or.inl ⟨by rfl, ?_⟩) ?_ ?_
            rotate_left
            · intro w'
              go_simp
              with_reducible rfl
            rotate_left
            · simp only [Act.put, List.setIfInBounds_toArray, List.set_cons_zero, List.set_cons_succ, i64_w, i32_w]
              rfl
            refine take_ (i := 1) (N := some 87) (v := ?_) (a' := ?_) #[true, true, false, true, true, true, false, false, false, false, false, false, false, false] rfl rfl (by kernel_rfl) (fun _ _ _ h => h) (Or.inl ⟨by rfl, ?_⟩) hHeld ?_ ?_
            rotate_left
            · intro w' hS'
              have s0 := hS'
              have hm := (hS'.block _ (blk_lt HM8.out)).trans HM8.out; have m4 := Vc.cell_of (i := 4) hm rfl; go_simp
              with_reducible rfl
            rotate_left
            · simp only [Act.put, List.setIfInBounds_toArray, List.set_cons_zero, List.set_cons_succ, i64_w, i32_w]
              rfl
            refine take_ (i := 2) (N := some 88) (v := ?_) (a' := ?_) #[true, true, true, true, true, true, false, false, false, false, false, false, false, false] rfl rfl (by kernel_rfl) (fun _ _ _ h => h) (Or.inl ⟨by rfl, ?_⟩) hHeld ?_ ?_
            rotate_left
            · intro w' hS'
              have s0 := hS'
              have hm := (hS'.block _ (blk_lt HM8.out)).trans HM8.out; have m0 := Vc.cell_of (i := 0) hm rfl; have m1 := Vc.cell_of (i := 1) hm rfl; have m2 := Vc.cell_of (i := 2) hm rfl; have m3 := Vc.cell_of (i := 3) hm rfl; have m4 := Vc.cell_of (i := 4) hm rfl; go_simp
              with_reducible rfl
            rotate_left
            · simp only [Act.put, List.setIfInBounds_toArray, List.set_cons_zero, List.set_cons_succ, i64_w, i32_w]
              rfl
            refine take_ (i := 6) (N := some 92) (v := ?_) (a' := ?_) #[true, true, true, true, true, true, true, false, false, false, false, false, false, false] rfl rfl (by kernel_rfl) (fun _ _ _ h => h) (Or.inl ⟨by rfl, ?_⟩) hHeld ?_ ?_
            rotate_left
            · intro w' hS'
              have s0 := hS'
              have y0 := pw_cell_below (bt_ HB8.out hS') x0; go_simp
              with_reducible rfl
            rotate_left
            · simp only [Act.put, List.setIfInBounds_toArray, List.set_cons_zero, List.set_cons_succ, i64_w, i32_w]
              rfl
            refine one_ (i := 7) (N := some 93) #[true, true, true, true, true, true, true, true, false, false, false, false, false, false] rfl rfl (by kernel_rfl) (by decide) (fun K hK => ?_)
            refine goes_ Tryz.func36 (by kernel_rfl) rfl #[.agg #[.slice B0 (bL (tabOf sp).1).length e0, .slice D0 (mL (tabOf sp).1).length f0, .slice B4 sp.C.length e4, .slice B5 sp.J.length e5, .slice B3 sp.X.length e3], .slice Ai ids.length ci] (by rfl) rfl rfl (by simp [Act.eval]) ?_
            refine (HIS.out _ (HF8.out.below HW9.out) (bt_ HB8.out HW9.out)).mono ?_
            rintro e w10 ⟨v0, rfl, ho, hb⟩
            obtain ⟨A6, c6, rfl⟩ := Kd.R_slice ho
            refine ⟨_, rfl, ?_⟩
            have HO10 := As.mk (Kd.R_reads' ho)
            have HW10 := As.mk (bt_ HW9.out hb)
            refine hK.out _ _ HW10.out (fun _ => ?_)
            clear hK K hb ho
            refine norm_ (a' := ?_) ?_ ?_
            rotate_left
            · (simp only [Act.put, List.setIfInBounds_toArray, List.set_cons_zero, List.set_cons_succ]; rfl)
            refine one_ (i := 8) (N := some 94) #[true, true, true, true, true, true, true, true, true, false, false, false, false, false] rfl rfl (by kernel_rfl) (by decide) (fun K hK => ?_)
            refine goes_ Tryz.func35 (by kernel_rfl) rfl #[.slice B3 sp.X.length e3, .slice A6 its.length c6] (by rfl) rfl rfl (by simp [Act.eval]) ?_
            have hx := (HF8.out.below HW10.out).X
            have hren := Mk.refRender_any B3 e3 sp.X A6 c6 its w10 (Kd.R_reads' hx).2.2 (Kd.R_reads' hx).2.1 HO10.out.2.2 HO10.out.2.1 HGD.out (by have := HIL.out; omega)
            rw [rendV_eq, HRS.out] at hren
            generalize (Mk.rendF (Mk.hasP sp.X) its).isSome = bS at hren
            refine hren.mono ?_
            clear hren
            rintro e w11 ⟨rfl, hb⟩
            refine ⟨_, rfl, ?_⟩
            have HW11 := As.mk (bt_ HW10.out hb)
            refine hK.out _ _ HW11.out (fun _ => ?_)
            clear hK K hb
            refine norm_ (a' := ?_) ?_ ?_
            rotate_left
            · (simp only [Act.put, List.setIfInBounds_toArray, List.set_cons_zero, List.set_cons_succ]; rfl)
            refine pure_ (i := 9) (N := some 85) (v := ?_) (a' := ?_) #[true, true, true, true, true, true, true, true, true, true, false, false, false, false] rfl rfl (by kernel_rfl) (fun _ _ _ h => h) (Or.inl ⟨by rfl, ?_⟩) ?_ ?_
            rotate_left
            · intro w'
              go_simp
              with_reducible rfl
            rotate_left
            · simp only [Act.put, List.setIfInBounds_toArray, List.set_cons_zero, List.set_cons_succ, i64_w, i32_w]
              rfl
            refine pure_ (i := 10) (N := some 95) (v := ?_) (a' := ?_) #[true, true, true, true, true, true, true, true, true, true, true, false, false, false] rfl rfl (by kernel_rfl) (fun _ _ _ h => h) (Or.inl ⟨by rfl, ?_⟩) ?_ ?_
            rotate_left
            · intro w'
              go_simp
              with_reducible rfl
            rotate_left
            · simp only [Act.put, List.setIfInBounds_toArray, List.set_cons_zero, List.set_cons_succ, i64_w, i32_w]
              rfl
            refine pure_ (i := 11) (N := some 96) (v := ?_) (a' := ?_) #[true, true, true, true, true, true, true, true, true, true, true, true, false, false] rfl rfl (by kernel_rfl) (fun _ _ _ h => h) (Or.inl ⟨by rfl, ?_⟩) ?_ ?_
            rotate_left
            · intro w'
              go_simp
              with_reducible rfl
            rotate_left
            · simp only [Act.put, List.setIfInBounds_toArray, List.set_cons_zero, List.set_cons_succ, i64_w, i32_w]
              rfl
            refine pure_ (i := 12) (N := some 15) (v := ?_) (a' := ?_) #[true, true, true, true, true, true, true, true, true, true, true, true, true, false] rfl rfl (by kernel_rfl) (fun _ _ _ h => h) (Or.inl ⟨by rfl, ?_⟩) ?_ ?_
            rotate_left
            · intro w'
              go_simp
              with_reducible rfl
            rotate_left
            · simp only [Act.put, List.setIfInBounds_toArray, List.set_cons_zero, List.set_cons_succ, i64_w, i32_w]
              rfl
            refine pure_ (i := 13) (N := some 16) (v := ?_) (a' := ?_) #[true, true, true, true, true, true, true, true, true, true, true, true, true, true] rfl rfl (by kernel_rfl) (fun _ _ _ h => h) (Or.inl ⟨by rfl, ?_⟩) ?_ ?_
            rotate_left
            · intro w'
              go_simp
              with_reducible rfl
            rotate_left
            · simp only [Act.put, List.setIfInBounds_toArray, List.set_cons_zero, List.set_cons_succ, i64_w, i32_w]
              rfl
            refine done_ (by kernel_rfl) ?_
            have HB11 := As.mk (bt_ HB8.out HW11.out)
            have HD11 := As.mk (HD8.out.below HW11.out)
            have HV11 := As.mk (HV8.out.below HW11.out)
            have HF11 := As.mk (HF8.out.below HW11.out)
            have HM11 := As.mk ((HW11.out.block _ (blk_lt HM8.out)).trans HM8.out)
            clear HB8 HD8 HV8 HF8 HM8 HW9 HW10 HW11 HO10 HIS HRS
            have x11 := pw_cell_below HB11.out x0
            have HH := As.mk (held_cell (Vc.cell_of (i := 0) HD11.out.blk rfl))
            have HY := As.mk (bytes_cell (Vc.cell_of (i := 3) HD11.out.blk rfl))
            rw [HTZ.out] at HH
            clear x0
            go_wp2_with (first
              | (go_at_call 32; refine (HLI'.out _).mono ?_; rintro e w12 ⟨rfl, rfl⟩)
              | (go_at_call 46; refine HH.out.mono ?_; rintro e w13 ⟨rfl, rfl⟩)
              | (go_at_call 47; refine HY.out.mono ?_; rintro e w14 ⟨rfl, rfl⟩))
            go_roundg k1
            case measure => omega
            case rel =>
              obtain ⟨t1, t2, t3, t4⟩ := HTD.out
              have ek := HKK.out
              subst ek
              subst t1
              exact ⟨i + 1, all', rfl, rfl, by go_num, by have := HLT.out; omega, ⟨by have h1 := HS.out; have h2 := HSZ.out; omega⟩, HD11, HV11, HF11, HM11, ⟨by have := HK.out; omega⟩, HB11⟩
      · obtain rfl : i = l.length := by omega
        have htl := tailB_size (heldF_le all)
        have hh3 : heldF all ≤ all.size := heldF_le all
        have hsb : all.size ≤ 10000000 := by have h1 := HS.out; have h2 := HLN.out; omega
        have hsum : (all.size - heldF all) + (tailB all (heldF all)).size = all.size := by omega
        have hle : w.heap.size ≤ d := Nat.le_trans HLE.out (Nat.le_of_lt HDD.out.1)
        have HLE2 := As.mk hle
        have hsl : ∀ W : World, (Instr.slice 9 (.string all) (some (.int .i64 ((all.size - heldF all : Nat) : Int))) none none).run Tryz.prog W = .ok (.string (tailB all (heldF all))) W := slice_str all (all.size - heldF all) (by omega)
        have hcl := close_raw HD.out.blk (by omega) (by omega)
        rw [hsum] at hcl
        have HCL := As.mk hcl
        have HSB := As.mk hsb
        have hsbI : (all.size : Int) ≤ 10000000 := by omega
        have hne : ((0 : Nat) : Int) = 0 := rfl
        clear hcl htl hh3 hsum hle HD HS HV HF HM hsb hne
        generalize tailB all (heldF all) = hd at *
        generalize all.size - heldF all = told at *
        go_wp2_with (first
          | (go_at_call 45; refine (feed_closed (HSH.out.below (below_alloc (Below.refl _ _) _)) _).mono ?_; rintro e w7 ⟨rfl, rfl⟩; have HSH2 := As.mk (HSH.out.below (below_alloc (Below.refl w6.heap.size w6) (.cells #[.int .i64 97] 3))); have HB7 := As.mk (below_alloc HB6.out (.cells #[.int .i64 97] 3)); clear HSH HB6)
          | (go_at_call 48; refine HCL.out.mono ?_; rintro e w6 ⟨rfl, hsh, u0, u2, u3, hw⟩; have HSH := As.mk hsh; have HB6 := As.mk (show Below w.heap.size w w6 from by rw [hw]; exact ((HB.out.setCell (p := ⟨d, 0, none⟩) HLE2.out _).setCell (p := ⟨d, 2, none⟩) HLE2.out _).setCell (p := ⟨d, 3, none⟩) HLE2.out _); clear hsh hw HCL HB)
          | (go_at_call 48; refine (close_raw HSH2.out.blk (by have := HSB.out; omega) (by show 0 ≤ _; omega)).mono ?_; rintro e w8 ⟨rfl, hsh, u4, u5, u6, hw⟩; have HSH3 := As.mk hsh; have HB8 := As.mk (show Below w.heap.size w w8 from by rw [hw]; exact ((HB7.out.setCell (p := ⟨d, 0, none⟩) HLE2.out _).setCell (p := ⟨d, 2, none⟩) HLE2.out _).setCell (p := ⟨d, 3, none⟩) HLE2.out _); clear hsh hw HSH2 HB7)
          | (go_at_call 47; refine (bytes_cell (told := all.size) (Vc.cell_of (i := 3) HSH3.out.blk rfl)).mono ?_; rintro e w9 ⟨rfl, rfl⟩)
          | (go_at_call 46; refine (held_cell (hd := ⟨#[]⟩) (Vc.cell_of (i := 0) HSH3.out.blk rfl)).mono ?_; rintro e w9 ⟨rfl, rfl⟩))
        go_ret
        exact ⟨rfl, HB8.out⟩
end Go.Proofs.YtkffhgiiejbnaaaGreat.Rt
