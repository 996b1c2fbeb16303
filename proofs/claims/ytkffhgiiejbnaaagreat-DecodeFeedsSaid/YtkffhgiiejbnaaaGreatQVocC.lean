import Derived.Test.YtkffhgiiejbnaaaGreatQVocB
set_option linter.unusedVariables false
set_option linter.unusedSimpArgs false
namespace Go.Proofs.YtkffhgiiejbnaaaGreat.Vc
open Go.Shelf Go.RowKit Go.Proofs.YtkffhgiiejbnaaaGreatW.PrintWords Go.Proofs.YtkffhgiiejbnaaaGreatW.PrintLast Go.Proofs.YtkffhgiiejbnaaaGreatW.PrintMore Go.Proofs.YtkffhgiiejbnaaaGreat.Rf Go.Proofs.YtkffhgiiejbnaaaGreat.Aid Go.Proofs.YtkffhgiiejbnaaaGreat.Mp Go.Proofs.YtkffhgiiejbnaaaGreat.Hp Go.Proofs.YtkffhgiiejbnaaaGreat.Fn Go.Proofs.YtkffhgiiejbnaaaGreat.Bn Go.Proofs.YtkffhgiiejbnaaaGreat.Tk
set_option linter.unusedVariables false
set_option linter.unusedSimpArgs false
set_option maxHeartbeats 400000
def itF (s : Sp) : List Int → Nat → List Int → List Int × Nat × Int
  | [], n, xs => (xs, n, 0)
  | id :: l, n, xs => if hasId s id = true then itF s l (n + 1) (xs ++ itemsOf s id) else ([], n, 4)
theorem items_len {w : World} {v : Nat} {s : Sp} (h : VocAt w v s) (id : Int) : (itemsOf s id).length ≤ 64 := by
  obtain ⟨_, _, w0, pt, pb, pm, h1, h2, h3, h4, h5, h6, h7, h8⟩ := h
  unfold itemsOf
  split
  · simp
  · rw [bytesI_len]; exact byt_small h3.small id
def Used (w : World) (v : Nat) (w' : World) : Prop := ∃ m : Int, Below w.heap.size (w.setCell ⟨v, 13, none⟩ (.int .i64 m)) w'
theorem set_size (w : World) (a : Addr) (u : Value) : (w.setCell a u).heap.size = w.heap.size := by simp [World.setCell]
set_option maxRecDepth 100000 in
set_option maxHeartbeats 2000000 in
theorem items_any {w : World} {v : Nat} {s : Sp} (h : VocAt w v s) (A : Option Addr) (c : Nat) (ids : List Int) (hr : ∀ m : Int, Kd.C (Kd.int .i64) (w.setCell ⟨v, 13, none⟩ (.int .i64 m)) A ids.length ids) (hl : ids.length ≤ 1000000) :
    Calls Tryz.prog 29 #[.pointer (some ⟨v, 0, none⟩), .slice A ids.length c] w fun e w' => ∃ sv : Value, e = .returned (.tuple #[sv, .int .i64 (itF s ids 0 []).2.1, .int .i64 (itF s ids 0 []).2.2]) ∧ Kd.R (Kd.int .i64) 3 w' w.heap.size (fun _ => True) sv (itF s ids 0 []).1 ∧ VocAt w' v s ∧ Used w v w' := by
  have HR := As.mk hr
  have HL := As.mk (items_len h)
  have HV := As.mk h
  clear hr h
  obtain ⟨R, hR⟩ : ∃ R, itF s ids 0 [] = R := ⟨_, rfl⟩
  have HF0 := As.mk (show itF s (ids.drop 0) 0 [] = R from hR)
  rw [hR]
  clear hR
  go_enter Tryz.func29, Tryz.ntmps29
  go_wp2_with (go_at_call 72; refine (uses_any HV.out).mono ?_; rintro e w1 ⟨m, rfl, hw1⟩; have HV1 := As.mk (HV.out.used m); have HR1 := As.mk (HR.out m); have hsz := set_size w ⟨v, 13, none⟩ (.int .i64 m); rw [← hw1] at HV1 HR1 hsz; have HW1 := As.mk hw1; have HSZ := As.mk hsz; clear hw1 hsz HR)
  go_loopg [7, 20] ids.length (fun k v7 v20 w' => ∃ (i : Nat) (xs : List Int), v20 = .int .i64 i ∧ i ≤ ids.length ∧ As (Kd.R (Kd.int .i64) 3 w' w1.heap.size (fun _ => True) v7 xs) ∧ As (itF s (ids.drop i) i xs = R) ∧ As (xs.length ≤ i * 64) ∧ As (ids.length - i ≤ k) ∧ As (Below w1.heap.size w1 w'))
  case atStart => exact ⟨0, [], rfl, Nat.zero_le _, ⟨Kd.R_nil _ _ _ _ _⟩, HF0, ⟨by simp⟩, ⟨by omega⟩, ⟨Below.refl _ _⟩⟩
  case round =>
    clear HF0
    obtain ⟨i, xs, rfl, hi, HO, HF, HX, HK, HB⟩ := hrel
    by_cases hlt : i < ids.length
    · obtain ⟨k1, rfl⟩ : ∃ k1, gk = k1 + 1 := ⟨gk - 1, by have := HK.out; omega⟩
      obtain ⟨ad, rfl, x0⟩ := Kd.at_int (Kd.C_below HR1.out HB.out) (i : Int) (by omega) (by omega)
      rw [Int.toNat_natCast, rdI hlt] at x0
      have hltI : (i : Int) < ids.length := by omega
      have HF' := As.mk (show itF s (ids[i] :: ids.drop (i + 1)) i xs = R from List.drop_eq_getElem_cons hlt ▸ HF.out)
      clear HF
      generalize ids[i] = id at *
      have HI := As.mk (items_one (HV1.out.below HB.out) id)
      cases hh : hasId s id with
      | false =>
        rw [hh] at HI
        have hA := HF'.out
        unfold itF at hA
        rw [if_neg (by rw [hh]; decide)] at hA
        subst hA
        clear HF' hh
        go_wp2_with (go_at_call 73; refine HI.out.mono ?_; rintro e w2 ⟨sv, rfl, ho, hb⟩; have HB2 := As.mk (bt_ HB.out hb); clear hb ho)
        go_ret3
        exact ⟨_, rfl, Kd.R_nil _ _ _ _ _, HV1.out.below HB2.out, m, by rw [← HW1.out, ← HSZ.out]; exact HB2.out⟩
      | true =>
        rw [hh] at HI
        have hA := HF'.out
        unfold itF at hA
        rw [if_pos hh] at hA
        have HA := As.mk hA
        clear HF' hh hA
        have HL1 := As.mk (HL.out id)
        generalize itemsOf s id = l at *
        go_wp2_with (first
          | (go_at_call 73; refine HI.out.mono ?_; rintro e w2 ⟨sv, rfl, ho, hb⟩; obtain ⟨A2, c2, rfl⟩ := Kd.R_slice ho; have HC2 := As.mk (Kd.R_reads' ho).2.2; have HO2 := As.mk (Kd.R_below HO.out hb); have HB2 := As.mk (bt_ HB.out hb); clear ho hb HO HB HI)
          | ((with_reducible refine gate_builtin (b := .append) (xs := #[.tmp 34, .tmp 35]) rfl ?_); at_builtin; refine Kd.R_append_rows (Kd.int .i64) (Rr := (Kd.int .i64).K w2) (w0 := w1) w1.heap.size rfl (.tmp 34) (.tmp 35) 41 3 (.int .i64 0) 8 rfl Tryz.underlying41 info3 rfl (by decide) (by omega) _ xs l A2 l.length c2 (fun _ => True) (fun _ => False) (by rfl) (by rfl) ?q1 ?q2 ?q3 (fun _ hk => hk.elim) (fun _ _ => trivial) ?q4 ?q5 ?q6 ?_; (case q1 => exact HO2.out); (case q2 => exact HC2.out.imp_ (Below.refl _ _) (fun _ _ h => h)); (case q3 => intro x cs hk; exact hk); (case q4 => exact HB2.out); (case q5 => exact HB2.out.size); (case q6 => have h1 := HX.out; have h2 := HL1.out; omega); intro v3 w3 ho hb hg hat; have HO3 := As.mk ho; have HB3 := As.mk hb; clear ho hb hg hat HO2 HB2))
        go_roundg k1
        case measure => omega
        case rel => exact ⟨i + 1, xs ++ l, by go_num, by omega, HO3, HA, ⟨by rw [List.length_append]; have h1 := HX.out; have h2 := HL1.out; omega⟩, ⟨by have := HK.out; omega⟩, HB3⟩
    · obtain rfl : i = ids.length := by omega
      have hA := HF.out
      rw [List.drop_length] at hA
      have hA' : (xs, ids.length, (0 : Int)) = R := hA
      subst hA'
      go_wp2
      go_ret3
      exact ⟨_, rfl, by rw [← HSZ.out]; exact HO.out, HV1.out.below HB.out, m, by rw [← HW1.out, ← HSZ.out]; exact HB.out⟩
end Go.Proofs.YtkffhgiiejbnaaaGreat.Vc
