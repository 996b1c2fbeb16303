import Derived.Test.YtkffhgiiejbnaaaGreatQSetB
set_option linter.unusedVariables false
set_option linter.unusedSimpArgs false
namespace Go.Proofs.YtkffhgiiejbnaaaGreat.Mk
open Go.RowKit Go.Proofs.YtkffhgiiejbnaaaGreatW.PrintWords Go.Proofs.YtkffhgiiejbnaaaGreatW.PrintLast Go.Proofs.YtkffhgiiejbnaaaGreatW.PrintMore Go.Proofs.YtkffhgiiejbnaaaGreat.Rf Go.Proofs.YtkffhgiiejbnaaaGreat.Aid Go.Proofs.YtkffhgiiejbnaaaGreat.Mp
set_option linter.unusedVariables false
set_option linter.unusedSimpArgs false
set_option maxHeartbeats 400000
theorem idx_spec {S : List Sp} {s : ByteArray} {j : Nat} (h : idx S s = some j) : (rd_T93 S j).f1 = s := by
  obtain ⟨hl, hd, _⟩ := List.findIdx?_eq_some_iff_getElem.1 h
  unfold rd_T93
  rw [Int.toNat_natCast, List.getD_eq_getElem?_getD, List.getElem?_eq_getElem hl]
  simpa using hd
theorem atN_spec {S : List Sp} {s : ByteArray} {j : Nat} : ∀ {n : Nat}, atN S s n = some j → j < S.length ∧ ∃ m, 0 < m ∧ m ≤ n ∧ (rd_T93 S j).f1 = s.extract 0 m
  | 0, h => by simp [atN] at h
  | n + 1, h => by
    rw [atN_succ] at h
    split at h
    · exact ⟨idx_lt h, n + 1, by omega, by omega, idx_spec h⟩
    · obtain ⟨h1, m, h2, h3, h4⟩ := atN_spec h
      exact ⟨h1, m, h2, by omega, h4⟩
theorem atP_spec {S : List Sp} {s : ByteArray} {j : Nat} (h : atP S s = some j) : j < S.length ∧ 0 < (rd_T93 S j).f1.size ∧ (rd_T93 S j).f1.size ≤ s.size := by
  unfold atP at h
  split at h
  · split at h
    · obtain ⟨h1, m, h2, h3, h4⟩ := atN_spec h
      have : (rd_T93 S j).f1.size = m := by rw [h4, ByteArray.size_extract]; omega
      exact ⟨h1, by omega, by omega⟩
    · cases h
  · cases h
theorem R_away {α : Type} {d : Kd α} {e : Nat} {w : World} {base : Nat} {ok : Nat → Prop} {v : Value} {xs : List α} (h : d.R e w base ok v xs) {b : Nat} (hb : w.heap.size ≤ b) : some b ≠ v.ownBlock := by
  obtain ⟨_, ho⟩ := Kd.R_own h
  intro e1
  have := own_lt ho b e1.symm
  omega
set_option maxRecDepth 100000 in
set_option maxHeartbeats 1000000 in
theorem parse_any {p : Nat} {S : List Sp} {w : World} (h : SetAt w p S) (s : ByteArray) (hs : s.size ≤ 17592186044414) :
    Calls Tryz.prog 68 #[.pointer (some ⟨p, 0, none⟩), .string s] w fun e w' => ∃ v, e = .returned v ∧ Kd.R (Kd.int .i64) 3 w' w.heap.size (fun _ => True) v (parseP S s) ∧ Below w.heap.size w w' := by
  unfold parseP
  obtain ⟨R, hR⟩ : ∃ R, parseF S s s.size 0 = R := ⟨_, rfl⟩
  have hRl : R.length ≤ s.size := by rw [← hR]; exact parseF_length S s s.size 0
  rw [hR]
  have HR := As.mk hR
  have HS := As.mk h
  have HB := As.mk (Below.refl w.heap.size w)
  have HRl := As.mk hRl
  clear hR h hRl
  go_enter Tryz.func68, Tryz.ntmps68
  go_wp2
  go_loopg [5, 6] s.size (fun k v5 v6 w' => ∃ (xs : List Int) (i : Nat), v6 = .int .i64 i ∧ i ≤ s.size ∧ As (xs ++ parseF S s k i = R) ∧ As (s.size - i ≤ k) ∧ As (Kd.R (Kd.int .i64) 3 w' w.heap.size (fun _ => True) v5 xs) ∧ As (Below w.heap.size w w'))
  case atStart => exact ⟨[], 0, rfl, Nat.zero_le _, ⟨by simpa using HR.out⟩, ⟨by omega⟩, ⟨Kd.R_nil _ _ _ _ _⟩, HB⟩
  case round =>
    clear HR HB
    obtain ⟨xs, i, rfl, hi, HA, HK, HO, HB⟩ := hrel
    by_cases hlt : i < s.size
    · have hk : ∃ k1, gk = k1 + 1 := ⟨gk - 1, by have := HK.out; omega⟩
      obtain ⟨k1, rfl⟩ := hk
      have hltI : (i : Int) < s.size := by omega
      have hsl : ∀ w', (Instr.slice 9 (.string s) (some (.int .i64 (i : Int))) none none).run Tryz.prog w' = .ok (.string (s.extract i s.size)) w' := fun w' => slice_from Tryz.underlying9 s _ i rfl (by omega) w'
      have hlx : xs.length + 1 ≤ R.length := by
        have := HA.out
        rw [← this, List.length_append]
        have : 1 ≤ (parseF S s (k1 + 1) i).length := by
          cases ha : atP S (s.extract i s.size) with
          | none => rw [parseF_byte hlt ha]; simp
          | some j => rw [parseF_mark hlt ha]; simp
        omega
      have HL := As.mk hlx
      have hsz : (s.extract i s.size).size ≤ 9223372036854775807 := by rw [ByteArray.size_extract]; omega
      have HZ := As.mk hsz
      clear hlx hsz
      cases ha : atP S (s.extract i s.size) with
      | none =>
        have hA := HA.out
        rw [parseF_byte hlt ha] at hA
        have HA' := As.mk hA
        have Ha := As.mk ha
        clear hA HA ha
        have hb := bt_at s i
        have hbr := bt_range s i
        simp only [Int.toNat_natCast] at hb
        go_wp2_with (first | (go_at_call 96; refine (at_any (HS.out.below HB.out) (s.extract i s.size) HZ.out).mono ?_; rintro e w1 ⟨rfl, ⟨n1, rfl⟩⟩; rw [Ha.out]; unfold markT markV) | ((with_reducible refine gate_builtin (b := .append) (xs := #[.tmp 25, .tmp 30]) rfl ?_); at_builtin; refine Kd.R_append (Kd.int .i64) (w0 := w) w.heap.size rfl (.tmp 25) (.tmp 30) 41 3 (.int .i64 0) 8 rfl Tryz.underlying41 info3 rfl (by decide) (by omega) _ xs (bt s i) [.int .i64 (bt s i)] (fun _ => True) (fun _ => False) rfl ?aX ?aP (fun _ hk => hk.elim) ?aF ?aO ?aB ?aS ?aL ?_; (case aX => first | exact rfl | (simp [Act.eval, go_sem]; done)); (case aP => exact rfl); (case aF => exact (fun _ _ => trivial)); (case aO => exact (by (with_reducible repeat (first | apply Kd.R_alloc | apply Kd.R_drewN | apply Kd.R_drew)); exact HO.out)); (case aB => exact (by repeat (first | (with_reducible first | exact HB.out | apply below_alloc | apply pw_below_drewN | apply below_drew1) | exact HB.out))); (case aS => exact (below_size (by repeat (first | (with_reducible first | exact HB.out | apply below_alloc | apply pw_below_drewN | apply below_drew1) | exact HB.out)))); (case aL => (have := HL.out; have := HRl.out; omega)); intro v1 w1 ho hb hg hat; have HO_ := As.mk ho; have HB_ := As.mk hb; clear HO HB ho hb hg hat; have HO := HO_; have HB := HB_; clear HO_ HB_))
        go_roundg k1
        case measure => omega
        case rel => exact ⟨xs ++ [bt s i], i + 1, by go_num, by omega, ⟨by rw [List.append_assoc]; exact HA'.out⟩, ⟨by have := HK.out; omega⟩, HO, HB⟩
      | some j =>
        obtain ⟨q1, q2, q3⟩ := atP_spec ha
        rw [ByteArray.size_extract] at q3
        have hA := HA.out
        rw [parseF_mark hlt ha] at hA
        have HA' := As.mk hA
        have Ha := As.mk ha
        have hj1 : (-1 - (j : Int)) < 0 := by omega
        have hj2 : -(S.length : Int) ≤ -1 - (j : Int) := by omega
        have hP : hasP S (-1 - (j : Int)) = (rd_T93 S j, true) := by
          unfold hasP
          rw [if_pos ⟨hj1, hj2⟩, show -1 - (-1 - (j : Int)) = (j : Int) from by omega]
        have HP := As.mk hP
        clear hA HA ha hP q1 hj2
        have q3' : (rd_T93 S j).f1.size ≤ s.size - i := by omega
        clear q3
        generalize hx : rd_T93 S j = x at *
        clear hx
        go_wp2_with (first | (go_at_call 96; refine (at_any (HS.out.below HB.out) (s.extract i s.size) HZ.out).mono ?_; rintro e w1 ⟨rfl, ⟨n1, rfl⟩⟩; rw [Ha.out]; unfold markT markV) | (go_at_call 97; refine (has_any (HS.out.below (pw_below_drewN HB.out _)) _).mono ?_; rintro e w2 ⟨rfl, hb1⟩; rw [HP.out]; unfold spV; (have HB_ := As.mk (below_then (pw_below_drewN HB.out _) (by have := HB.out.size; simpa using this) hb1)); (have HO_ := As.mk (Kd.R_below (Kd.R_drewN HO.out _) hb1)); clear HB HO; (have HB := HB_); (have HO := HO_); clear HB_ HO_; clear hb1) | ((with_reducible refine gate_builtin (b := .append) (xs := #[.tmp 40, .tmp 42]) rfl ?_); at_builtin; refine Kd.R_append (Kd.int .i64) (w0 := w) w.heap.size rfl (.tmp 40) (.tmp 42) 41 3 (.int .i64 0) 8 rfl Tryz.underlying41 info3 rfl (by decide) (by omega) _ xs (-1 - (j : Int)) [.int .i64 (-1 - (j : Int))] (fun _ => True) (fun _ => False) rfl ?aX ?aP (fun _ hk => hk.elim) ?aF ?aO ?aB ?aS ?aL ?_; (case aX => first | exact rfl | (simp [Act.eval, go_sem]; done)); (case aP => exact rfl); (case aF => exact (fun _ _ => trivial)); (case aO => exact (by (with_reducible repeat (first | apply Kd.R_alloc | apply Kd.R_drewN | apply Kd.R_drew)); exact HO.out)); (case aB => exact (by repeat (first | (with_reducible first | exact HB.out | apply below_alloc | apply pw_below_drewN | apply below_drew1) | exact HB.out))); (case aS => exact (below_size (by repeat (first | (with_reducible first | exact HB.out | apply below_alloc | apply pw_below_drewN | apply below_drew1) | exact HB.out)))); (case aL => (have := HL.out; have := HRl.out; omega)); intro v1 w1 ho hb hg hat; (have hx := cell_grown hg (a := ⟨w2.heap.size, 1, none⟩) (v := .string x.f1) (by simp [go_sem]) (R_away HO.out (Nat.le_refl _))); have HO_ := As.mk ho; have HB_ := As.mk hb; clear HO HB ho hb hg hat; have HO := HO_; have HB := HB_; clear HO_ HB_))
        go_roundg k1
        case measure => omega
        case rel => exact ⟨xs ++ [-1 - (j : Int)], i + x.f1.size, by go_num, by omega, ⟨by rw [List.append_assoc]; exact HA'.out⟩, ⟨by have := HK.out; omega⟩, HO, HB⟩
    · have hA := HA.out
      rw [parseF_nil hlt, List.append_nil] at hA
      subst hA
      have hge : ¬ (i : Int) < s.size := by omega
      go_wp2
      go_ret
      exact ⟨_, rfl, HO.out, HB.out⟩
end Go.Proofs.YtkffhgiiejbnaaaGreat.Mk
