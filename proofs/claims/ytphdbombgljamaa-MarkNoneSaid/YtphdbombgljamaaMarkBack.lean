/- What is parsed is rendered as it was; parsed once more it is the same: the law's walk; no condition. -/
import Derived.Test.YtphdbombgljamaaRendRef
import Derived.Test.YtphdbombgljamaaMarkParses
namespace Go.Proofs.Ytphdbombgljamaa.Mk
open Go.RowKit Go.Proofs.YtphdbombgljamaaW.PrintWords Go.Proofs.YtphdbombgljamaaW.PrintLast Go.Proofs.YtphdbombgljamaaW.PrintMore Go.Proofs.Ytphdbombgljamaa.Rf Go.Proofs.Ytphdbombgljamaa.Aid Go.Proofs.Ytphdbombgljamaa.Mp
set_option linter.unusedVariables false
set_option linter.unusedSimpArgs false
set_option maxHeartbeats 400000

theorem hasP_mark {S : List Sp} {j : Nat} (hj : j < S.length) : hasP S (-1 - (j : Int)) = (S[j], true) := by
  unfold hasP
  rw [if_pos (by omega), show -1 - (-1 - (j : Int)) = (j : Int) from by omega, rd_at hj]
theorem back_run {S : List Sp} (hS : GoodS S) (s : ByteArray) : ∀ (f i : Nat), s.size - i ≤ f → rendF (hasP S) (parseF S s f i) = some (s.data.toList.drop i)
  | 0, i, h => by
    rw [List.drop_eq_nil_of_le (by rw [← Lib.size_eq]; omega)]; rfl
  | f + 1, i, h => by
    by_cases hlt : i < s.size
    · have hlt' : i < s.data.toList.length := by rw [← Lib.size_eq]; exact hlt
      cases ha : atP S (s.extract i s.size) with
      | none =>
        have hb := bt_range s i
        rw [parseF_byte hlt ha, rendF, if_pos (by omega), back_run hS s f (i + 1) (by omega), List.drop_eq_getElem_cons hlt']
        have : UInt8.ofNat (bt s i).toNat = s.data.toList[i] := by
          rw [← bt_at s i (by simpa using hlt)]
          simp
          rfl
        simp [this]
      | some j =>
        obtain ⟨hj, hbg, _⟩ := atP_some hS ha
        have hneg : ¬ (0 ≤ -1 - (j : Int) ∧ -1 - (j : Int) < 256) := by omega
        obtain ⟨b1, b2⟩ := beg_extract hbg
        rw [ByteArray.size_extract] at b1
        have hbytes : (S[j]).f1.data.toList = (s.data.toList.drop i).take (S[j]).f1.size := by
          conv => lhs; rw [← b2]
          rw [Lib.extract_data, Lib.extract_data]
          rw [List.drop_zero, List.take_take]
          congr 1
          omega
        rw [parseF_mark hlt ha, rendF, if_neg hneg, hasP_mark hj, if_pos rfl, rd_at hj, back_run hS s f (i + (S[j]).f1.size) (by have := (hS.good _ (List.getElem_mem hj)).2.2.1; omega)]
        simp only [Option.map_some]
        rw [hbytes, ← List.drop_drop, List.take_append_drop]
    · rw [parseF_nil hlt, List.drop_eq_nil_of_le (by rw [← Lib.size_eq]; omega)]; rfl
theorem back_some {S : List Sp} (hS : GoodS S) (s : ByteArray) : rendV (rendF (hasP S) (parseP S s)) = .tuple #[.string s, .bool true] := by
  unfold parseP
  rw [back_run hS s s.size 0 (by omega), List.drop_zero]
  show Value.tuple #[.string ⟨s.data.toList.toArray⟩, .bool true] = _
  rw [Lib.mk_data]

set_option maxRecDepth 100000 in
set_option maxHeartbeats 1000000 in
theorem back_walk (A : Option Addr) (c : Nat) (l : List Sp) (s : ByteArray) (w : World) (hr : Kd.C kSp w A l.length l) (hc : l.length ≤ c) (hl : l.length ≤ 9223372036854775807) (hs : s.size ≤ 9223372036854775807) :
    Calls Try.prog 8 #[.slice A l.length c, .string s] w fun e w' => e = .returned (.bool true) ∧ Below w.heap.size w w' := by
  have HR := As.mk hr
  have HC := As.mk hc
  clear hr hc
  cases hg : greatP l with
  | true =>
    have HG := As.mk hg
    clear hg
    go_enter Try.func8, Try.ntmps8
    go_wp2_with fail
    refine (great_any A c l _ HR.out HC.out hl).mono ?_
    rw [HG.out]
    rintro e w1 ⟨rfl, ⟨n, rfl⟩⟩
    go_wp2_with fail
    refine (awake_any _).mono ?_
    rintro e w1 ⟨rfl, hb⟩
    go_wp2
    go_ret
    exact ⟨rfl, bt_ (pw_below_drewN (Below.refl _ _) _) hb⟩
  | false =>
    have HG := As.mk hg
    clear hg
    by_cases h5 : 500 < s.size
    · have h5i : (500 : Int) < (s.size : Int) := by omega
      go_enter Try.func8, Try.ntmps8
      go_wp2_with fail
      refine (great_any A c l _ HR.out HC.out hl).mono ?_
      rw [HG.out]
      rintro e w1 ⟨rfl, ⟨n, rfl⟩⟩
      go_wp2_with fail
      refine (awake_any _).mono ?_
      rintro e w1 ⟨rfl, hb⟩
      go_wp2
      go_ret
      exact ⟨rfl, bt_ (pw_below_drewN (Below.refl _ _) _) hb⟩
    · have h5i : ¬ (500 : Int) < (s.size : Int) := by omega
      go_enter Try.func8, Try.ntmps8
      go_wp2_with fail
      refine (great_any A c l _ HR.out HC.out hl).mono ?_
      rw [HG.out]
      rintro e w1 ⟨rfl, ⟨n, rfl⟩⟩
      go_wp2_with fail
      refine (awake_any _).mono ?_
      rintro e w1 ⟨rfl, hb⟩
      have HB := As.mk (bt_ (pw_below_drewN (Below.refl _ _) _) hb)
      clear hb
      go_wp2_with fail
      refine (new_any A c l _ (Kd.C_below HR.out HB.out) hl).mono ?_
      by_cases hn : (newP l).2 = 0
      rotate_left
      · rw [if_neg hn]
        rintro e w2 ⟨v, rfl, rfl, hb⟩
        have HB2 := As.mk (bt_ HB.out hb)
        have hn0 : ((newP l).2 == 0) = false := by simpa using hn
        have hn1 : ((newP l).2 != 0) = true := by simpa using hn
        clear hb HB
        go_wp2
        go_ret
        exact ⟨rfl, HB2.out⟩
      rw [if_pos hn, hn]
      rintro e w2 ⟨v, rfl, ⟨p, rfl, hp⟩, hb⟩
      have HB2 := As.mk (bt_ HB.out hb)
      have HP := As.mk hp
      clear hb hp HB
      have hpl : (parseP l s).length ≤ s.size := parseF_length l s s.size 0
      go_wp2_with fail
      refine (parse_any HP.out s (by omega)).mono ?_
      rintro e w3 ⟨v, rfl, ho, hb⟩
      obtain ⟨A1, c1, rfl, hc1, hr1⟩ := Kd.R_reads ho
      have HB3 := As.mk (bt_ HB2.out hb)
      have HP3 := As.mk (HP.out.below hb)
      have HR1 := As.mk hr1
      have HC1 := As.mk hc1
      clear ho hb hr1 hc1
      go_wp2_with fail
      refine (render_any HP3.out A1 c1 (parseP l s) HR1.out (by omega)).mono ?_
      rw [back_some HP.out.goodS s]
      rintro e w4 ⟨rfl, hb⟩
      have HB4 := As.mk (bt_ HB3.out hb)
      have HP4 := As.mk (HP3.out.below hb)
      have HR4 := As.mk (Kd.C_below HR1.out hb)
      clear hb
      go_wp2_with fail
      refine (parse_any HP4.out s (by omega)).mono ?_
      rintro e w5 ⟨v, rfl, ho, hb⟩
      obtain ⟨A2, c2, rfl, hc2, hr2⟩ := Kd.R_reads ho
      have HB5 := As.mk (bt_ HB4.out hb)
      have HR5 := As.mk (Kd.C_below HR4.out hb)
      have HR2 := As.mk hr2
      have HC2 := As.mk hc2
      clear ho hb hr2 hc2
      go_wp2_with fail
      refine (ints_any (parseP l s) (parseP l s) A2 A1 c2 c1 _ HR2.out HC2.out HR5.out HC1.out (by omega)).mono ?_
      rw [decide_eq_true rfl]
      rintro e w6 ⟨rfl, ⟨n3, rfl⟩⟩
      go_wp2
      go_ret
      exact ⟨rfl, pw_below_drewN HB5.out _⟩
end Go.Proofs.Ytphdbombgljamaa.Mk
