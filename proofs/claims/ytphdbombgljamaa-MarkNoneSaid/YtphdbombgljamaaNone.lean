/- Of no set there are no marks: the law's walk; no condition. -/
import Derived.Test.YtphdbombgljamaaNewsA
import Derived.Test.YtphdbombgljamaaMarkBack
namespace Go.Proofs.Ytphdbombgljamaa.Mk
open Go.RowKit Go.Proofs.YtphdbombgljamaaW.PrintWords Go.Proofs.YtphdbombgljamaaW.PrintLast Go.Proofs.YtphdbombgljamaaW.PrintMore Go.Proofs.Ytphdbombgljamaa.Rf Go.Proofs.Ytphdbombgljamaa.Aid Go.Proofs.Ytphdbombgljamaa.Mp
set_option linter.unusedVariables false
set_option linter.unusedSimpArgs false
set_option maxHeartbeats 400000

theorem goodNil : GoodS [] := ⟨by simp, by simp, by simp, by simp⟩
theorem atP_nil (s : ByteArray) : atP [] s = none := by
  unfold atP firstOf
  split <;> simp
theorem hasP_nil : hasP [] = fun _ => (spNo, false) := by
  funext m
  unfold hasP
  rw [if_neg (by simp)]

set_option maxRecDepth 100000 in
set_option maxHeartbeats 1000000 in
theorem parse_nil (s : ByteArray) (w : World) (hs : s.size ≤ 17592186044414) :
    Calls Try.prog 17 #[.pointer none, .string s] w fun e w' => ∃ v, e = .returned v ∧ Kd.R (Kd.int .i64) 3 w' w.heap.size (fun _ => True) v (parseP [] s) ∧ Below w.heap.size w w' := by
  unfold parseP
  obtain ⟨R, hR⟩ : ∃ R, parseF [] s s.size 0 = R := ⟨_, rfl⟩
  have hRl : R.length ≤ s.size := by rw [← hR]; exact parseF_length [] s s.size 0
  rw [hR]
  have HR := As.mk hR
  have HB := As.mk (Below.refl w.heap.size w)
  have HRl := As.mk hRl
  clear hR hRl
  go_enter Try.func17, Try.ntmps17
  go_wp2
  go_loopg [5, 6] s.size (fun k v5 v6 w' => ∃ (xs : List Int) (i : Nat), v6 = .int .i64 i ∧ i ≤ s.size ∧ As (xs ++ parseF [] s k i = R) ∧ As (s.size - i ≤ k) ∧ As (Kd.R (Kd.int .i64) 3 w' w.heap.size (fun _ => True) v5 xs) ∧ As (Below w.heap.size w w'))
  case atStart => exact ⟨[], 0, rfl, Nat.zero_le _, ⟨by simpa using HR.out⟩, ⟨by omega⟩, ⟨Kd.R_nil _ _ _ _ _⟩, HB⟩
  case round =>
    clear HR HB
    obtain ⟨xs, i, rfl, hi, HA, HK, HO, HB⟩ := hrel
    by_cases hlt : i < s.size
    · have hk : ∃ k1, gk = k1 + 1 := ⟨gk - 1, by have := HK.out; omega⟩
      obtain ⟨k1, rfl⟩ := hk
      have hltI : (i : Int) < s.size := by omega
      have hsl : ∀ w', (Instr.slice 9 (.string s) (some (.int .i64 (i : Int))) none none).run Try.prog w' = .ok (.string (s.extract i s.size)) w' := fun w' => slice_from Try.underlying9 s _ i rfl (by omega) w'
      have ha := atP_nil (s.extract i s.size)
      have hlx : xs.length + 1 ≤ R.length := by
        have := HA.out
        rw [← this, List.length_append]
        have : 1 ≤ (parseF [] s (k1 + 1) i).length := by
          rw [parseF_byte hlt ha]; simp
        omega
      have HL := As.mk hlx
      clear hlx
      have hA := HA.out
      rw [parseF_byte hlt ha] at hA
      have HA' := As.mk hA
      clear hA HA ha
      have hb := bt_at s i
      have hbr := bt_range s i
      simp only [Int.toNat_natCast] at hb
      go_wp2_with (first | (go_at_call 14; refine (at_nil (s.extract i s.size) _).mono ?_; rintro e w1 ⟨rfl, ⟨n1, rfl⟩⟩; unfold markT markV) | ((with_reducible refine gate_builtin (b := .append) (xs := #[.tmp 25, .tmp 30]) rfl ?_); at_builtin; refine Kd.R_append (Kd.int .i64) (w0 := w) w.heap.size rfl (.tmp 25) (.tmp 30) 33 3 (.int .i64 0) 8 rfl Try.underlying33 info3 rfl (by decide) (by omega) _ xs (bt s i) [.int .i64 (bt s i)] (fun _ => True) (fun _ => False) rfl ?aX ?aP (fun _ hk => hk.elim) ?aF ?aO ?aB ?aS ?aL ?_; (case aX => first | exact rfl | (simp [Act.eval, go_sem]; done)); (case aP => exact rfl); (case aF => exact (fun _ _ => trivial)); (case aO => exact (by (with_reducible repeat (first | apply Kd.R_alloc | apply Kd.R_drewN | apply Kd.R_drew)); exact HO.out)); (case aB => exact (by repeat (first | (with_reducible first | exact HB.out | apply below_alloc | apply pw_below_drewN | apply below_drew1) | exact HB.out))); (case aS => exact (below_size (by repeat (first | (with_reducible first | exact HB.out | apply below_alloc | apply pw_below_drewN | apply below_drew1) | exact HB.out)))); (case aL => (have := HL.out; have := HRl.out; omega)); intro v1 w1 ho hb hg hat; have HO_ := As.mk ho; have HB_ := As.mk hb; clear HO HB ho hb hg hat; have HO := HO_; have HB := HB_; clear HO_ HB_))
      go_roundg k1
      case measure => omega
      case rel => exact ⟨xs ++ [bt s i], i + 1, by go_num, by omega, ⟨by rw [List.append_assoc]; exact HA'.out⟩, ⟨by have := HK.out; omega⟩, HO, HB⟩
    · have hA := HA.out
      rw [parseF_nil hlt, List.append_nil] at hA
      subst hA
      have hge : ¬ (i : Int) < s.size := by omega
      go_wp2
      go_ret
      exact ⟨_, rfl, HO.out, HB.out⟩

theorem bytes_run (s : ByteArray) (hs : s.size ≤ 1000) : ∀ (d k i : Nat) (xs : List Int), i ≤ s.size → s.size - i = d → d < k → xs.length = i → mark_Bytes.l0 k s xs (s.size : Int) i = some (xs ++ parseF [] s d i)
  | 0, k, i, xs, h0, h1, h2, h3 => by
    obtain ⟨k, rfl⟩ : ∃ m, k = m + 1 := ⟨k - 1, by omega⟩
    simp only [mark_Bytes.l0]
    rw [if_neg (by omega)]
    simp [parseF]
  | d + 1, k, i, xs, h0, h1, h2, h3 => by
    obtain ⟨k, rfl⟩ : ∃ m, k = m + 1 := ⟨k - 1, by omega⟩
    have hlt : i < s.size := by omega
    have hw : wrap64 ((i : Int) + 1) = ((i + 1 : Nat) : Int) := (w64 (by omega) (by omega)).trans (by omega)
    have hb := bt_range s i
    have hwb : wrap64 (bt s (i : Int)) = bt s i := w64 (by omega) (by omega)
    simp only [mark_Bytes.l0]
    rw [if_pos (by omega), if_pos (by omega), if_pos (by omega), if_pos (by omega), hw, hwb, bytes_run s hs d k (i + 1) _ (by omega) (by omega) (by omega) (by simp; omega), parseF_byte hlt (atP_nil _), List.append_assoc]
    rfl
theorem bytes_any (s : ByteArray) (w : World) (hs : s.size ≤ 1000) :
    Calls Try.prog 35 #[.string s] w fun e w' => ∃ v, e = .returned v ∧ Kd.R (Kd.int .i64) 3 w' w.heap.size (fun _ => True) v (parseP [] s) ∧ Below w.heap.size w w' :=
  mark_Bytes.calls (s.size + 1) s _ w (by
    unfold mark_Bytes.f parseP
    have := bytes_run s hs s.size (s.size + 1) 0 [] (by omega) (by omega) (by omega) rfl
    simpa using this)

set_option maxRecDepth 100000 in
set_option maxHeartbeats 1000000 in
theorem none_walk (s : ByteArray) (n : Int) (w : World) (hs : s.size ≤ 9223372036854775807) :
    Calls Try.prog 10 #[.string s, .int .i64 n] w fun e w' => e = .returned (.bool true) ∧ Below w.heap.size w w' := by
  by_cases h5 : 100 < s.size
  · have h5i : (100 : Int) < s.size := by omega
    go_enter Try.func10, Try.ntmps10
    go_wp2_with fail
    refine (awake_any _).mono ?_
    rintro e w1 ⟨rfl, hb⟩
    go_wp2
    go_ret
    exact ⟨rfl, hb⟩
  · have h5i : ¬ (100 : Int) < s.size := by omega
    have hpl : (parseP [] s).length ≤ s.size := parseF_length [] s s.size 0
    go_enter Try.func10, Try.ntmps10
    go_wp2_with fail
    refine (at_nil s _).mono ?_
    rintro e w1 ⟨rfl, ⟨n1, rfl⟩⟩
    have HB1 := As.mk (pw_below_drewN (Below.refl w.heap.size w) n1)
    generalize w.drewN n1 = w1 at HB1 ⊢
    unfold markT markV
    go_wp2_with fail
    refine (id_nil n _).mono ?_
    rintro e w2 ⟨rfl, hb⟩
    have HB2 := As.mk (bt_ HB1.out hb)
    clear hb HB1
    go_wp2_with fail
    refine (mark_nil n _).mono ?_
    rintro e w3 ⟨rfl, rfl⟩
    unfold markT markV
    go_wp2_with fail
    refine (bytes_any s _ (by omega)).mono ?_
    rintro e w4 ⟨v, rfl, ho, hb⟩
    obtain ⟨A1, c1, rfl, hc1, hr1⟩ := Kd.R_reads ho
    have HB4 := As.mk (bt_ HB2.out hb)
    have HR1 := As.mk hr1
    clear ho hb hr1 HB2
    go_wp2_with fail
    refine (render_nil A1 c1 (parseP [] s) _ HR1.out (by omega)).mono ?_
    rw [← hasP_nil, back_some goodNil s]
    rintro e w5 ⟨rfl, hb⟩
    have HB5 := As.mk (bt_ HB4.out hb)
    clear hb HB4 HR1
    go_wp2_with fail
    refine (len_nil _).mono ?_
    rintro e w6 ⟨rfl, rfl⟩
    go_wp2_with fail
    refine (all_nil _).mono ?_
    rintro e w6 ⟨rfl, rfl⟩
    go_wp2_with fail
    refine (parse_nil s _ (by omega)).mono ?_
    rintro e w6 ⟨v, rfl, ho, hb⟩
    obtain ⟨A6, c6, rfl, hc6, hr6⟩ := Kd.R_reads ho
    have HB6 := As.mk (bt_ HB5.out hb)
    have HR6 := As.mk hr6
    have HC6 := As.mk hc6
    clear ho hb hr6 HB5 hc6
    go_wp2_with fail
    refine (bytes_any s _ (by omega)).mono ?_
    rintro e w7 ⟨v, rfl, ho, hb⟩
    obtain ⟨A7, c7, rfl, hc7, hr7⟩ := Kd.R_reads ho
    have HB7 := As.mk (bt_ HB6.out hb)
    have HR7 := As.mk hr7
    have HC7 := As.mk hc7
    have HR6' := As.mk (Kd.C_below HR6.out hb)
    clear ho hb hr7 HB6 HR6 hc7
    go_wp2_with fail
    refine (ints_any (parseP [] s) (parseP [] s) A6 A7 c6 c7 _ HR6'.out HC6.out HR7.out HC7.out (by omega)).mono ?_
    rw [decide_eq_true rfl]
    rintro e w8 ⟨rfl, ⟨n3, rfl⟩⟩
    go_wp2_with fail
    refine (awake_any _).mono ?_
    rintro e w9 ⟨rfl, hb⟩
    go_wp2
    go_ret
    exact ⟨rfl, bt_ (pw_below_drewN HB7.out _) hb⟩
end Go.Proofs.Ytphdbombgljamaa.Mk
