/- By any set any text's items, and the mark that begins it: the law's walk; no condition. -/
import Derived.Test.YtphdbombgljamaaMarkA
namespace Go.Proofs.Ytphdbombgljamaa.Mk
open Go.RowKit Go.Proofs.YtphdbombgljamaaW.PrintWords Go.Proofs.YtphdbombgljamaaW.PrintLast Go.Proofs.YtphdbombgljamaaW.PrintMore Go.Proofs.Ytphdbombgljamaa.Rf Go.Proofs.Ytphdbombgljamaa.Aid Go.Proofs.Ytphdbombgljamaa.Mp
set_option linter.unusedVariables false
set_option linter.unusedSimpArgs false
set_option maxHeartbeats 400000

theorem mark_some (o : Option Nat) : o.isSome = decide (markI o < 0) := by
  cases o with
  | none => rfl
  | some j => exact (decide_eq_true (show -1 - (j : Int) < 0 by omega)).symm
theorem great_any (A : Option Addr) (c : Nat) (l : List Sp) (w : World) (hr : Kd.C kSp w A l.length l) (hc : l.length ≤ c) (hl : l.length ≤ 9223372036854775807) :
    Calls Try.prog 11 #[.slice A l.length c] w fun e w' => e = .returned (.bool (greatP l)) ∧ Drawn w w' :=
  (ligatureref09_Great.calls _ A c l _ w hr hc (great_some l hl)).mono fun e w' ⟨h1, h2⟩ => ⟨h1, ⟨h2.out⟩⟩
theorem refAt_any (A : Option Addr) (c : Nat) (l : List Sp) (s : ByteArray) (w : World) (hr : Kd.C kSp w A l.length l) (hc : l.length ≤ c) (hS : GoodS l) :
    Calls Try.prog 15 #[.slice A l.length c, .string s] w fun e w' => e = .returned (.int .i64 (markI (atP l s))) ∧ Drawn w w' :=
  (ligatureref09_At.calls (l.length + 1) A c l s _ w hr hc (at_some hS s (by omega))).mono fun e w' ⟨h1, h2⟩ => ⟨h1, ⟨h2.out⟩⟩
theorem refParse_any (A : Option Addr) (c : Nat) (l : List Sp) (s : ByteArray) (w : World) (hr : Kd.C kSp w A l.length l) (hc : l.length ≤ c) (hS : GoodS l) (hs : s.size ≤ 17592186044414) :
    Calls Try.prog 18 #[.slice A l.length c, .string s] w fun e w' => ∃ v, e = .returned v ∧ Kd.R (Kd.int .i64) 3 w' w.heap.size (fun _ => True) v (parseP l s) ∧ Below w.heap.size w w' :=
  ligatureref09_Parse.calls _ A c l s _ w hr hc (parse_some hS s hs)

set_option maxRecDepth 100000 in
set_option maxHeartbeats 1000000 in
theorem parses_walk (A : Option Addr) (c : Nat) (l : List Sp) (s : ByteArray) (w : World) (hr : Kd.C kSp w A l.length l) (hc : l.length ≤ c) (hl : l.length ≤ 9223372036854775807) (hs : s.size ≤ 9223372036854775807) :
    Calls Try.prog 3 #[.slice A l.length c, .string s] w fun e w' => e = .returned (.bool true) ∧ Below w.heap.size w w' := by
  have HR := As.mk hr
  have HC := As.mk hc
  clear hr hc
  cases hg : greatP l with
  | true =>
    have HG := As.mk hg
    clear hg
    go_enter Try.func3, Try.ntmps3
    go_wp2_with fail
    refine (great_any A c l _ HR.out HC.out hl).mono ?_
    rw [HG.out]
    rintro e w1 ⟨rfl, ⟨n, rfl⟩⟩
    go_wp2_with fail
    refine (awake_any _).mono ?_
    rintro e w1 ⟨rfl, hb⟩
    go_wp2
    go_ret
    exact ⟨rfl, bt_ (pw_below_drewN (Below.refl _ _) _) hb⟩
  | false =>
    have HG := As.mk hg
    clear hg
    by_cases h5 : 500 < s.size
    · have h5i : (500 : Int) < s.size := by omega
      go_enter Try.func3, Try.ntmps3
      go_wp2_with fail
      refine (great_any A c l _ HR.out HC.out hl).mono ?_
      rw [HG.out]
      rintro e w1 ⟨rfl, ⟨n, rfl⟩⟩
      go_wp2_with fail
      refine (awake_any _).mono ?_
      rintro e w1 ⟨rfl, hb⟩
      go_wp2
      go_ret
      exact ⟨rfl, bt_ (pw_below_drewN (Below.refl _ _) _) hb⟩
    · have h5i : ¬ (500 : Int) < s.size := by omega
      go_enter Try.func3, Try.ntmps3
      go_wp2_with fail
      refine (great_any A c l _ HR.out HC.out hl).mono ?_
      rw [HG.out]
      rintro e w1 ⟨rfl, ⟨n, rfl⟩⟩
      go_wp2_with fail
      refine (awake_any _).mono ?_
      rintro e w1 ⟨rfl, hb⟩
      have HB := As.mk (bt_ (pw_below_drewN (Below.refl _ _) _) hb)
      clear hb
      go_wp2_with fail
      refine (new_any A c l _ (Kd.C_below HR.out HB.out) hl).mono ?_
      by_cases hn : (newP l).2 = 0
      · rw [if_pos hn, hn]
        rintro e w2 ⟨v, rfl, ⟨p, rfl, hp⟩, hb⟩
        have HB2 := As.mk (bt_ HB.out hb)
        have HP := As.mk hp
        clear hb hp HB
        go_wp2_with fail
        refine (at_any HP.out s hs).mono ?_
        rintro e w3 ⟨rfl, ⟨n1, rfl⟩⟩
        have HA := As.mk (show markT (atP l s) = .tuple #[.int .i64 (markI (atP l s)), .bool (atP l s).isSome] from rfl)
        rw [HA.out]
        have hm := mark_some (atP l s)
        rw [hm]
        clear HA hm
        obtain ⟨m, hm⟩ : ∃ m, markI (atP l s) = m := ⟨_, rfl⟩
        rw [hm]
        have HM := As.mk hm
        clear hm
        go_wp2_with fail
        refine (refAt_any A c l s _ (Kd.C_below HR.out (pw_below_drewN HB2.out _)) HC.out HP.out.goodS).mono ?_
        rw [HM.out]
        rintro e w3 ⟨rfl, ⟨n2, rfl⟩⟩
        go_wp2_with fail
        refine (parse_any (HP.out.below (pw_below_drewN (Below.refl _ _) _)) s (by omega)).mono ?_
        rintro e w3 ⟨v, rfl, ho, hb⟩
        obtain ⟨A1, c1, rfl, hc1, hr1⟩ := Kd.R_reads ho
        have HB3 := As.mk (bt_ (pw_below_drewN HB2.out _) hb)
        have HR1 := As.mk hr1
        have HC1 := As.mk hc1
        clear ho hb hr1 hc1
        go_wp2_with fail
        refine (refParse_any A c l s _ (Kd.C_below HR.out HB3.out) HC.out HP.out.goodS (by omega)).mono ?_
        rintro e w4 ⟨v, rfl, ho, hb⟩
        obtain ⟨A2, c2, rfl, hc2, hr2⟩ := Kd.R_reads ho
        have HB4 := As.mk (bt_ HB3.out hb)
        have HR2 := As.mk hr2
        have HC2 := As.mk hc2
        have HR1' := As.mk (Kd.C_below HR1.out hb)
        clear ho hb hr2 hc2
        have hpl : (parseP l s).length ≤ s.size := parseF_length l s s.size 0
        go_wp2_with fail
        refine (ints_any (parseP l s) (parseP l s) A1 A2 c1 c2 _ HR1'.out HC1.out HR2.out HC2.out (by omega)).mono ?_
        rw [decide_eq_true rfl]
        rintro e w5 ⟨rfl, ⟨n3, rfl⟩⟩
        go_wp2
        go_ret
        exact ⟨rfl, pw_below_drewN HB4.out _⟩
      · rw [if_neg hn]
        rintro e w2 ⟨v, rfl, rfl, hb⟩
        have HB2 := As.mk (bt_ HB.out hb)
        have hn0 : ((newP l).2 == 0) = false := by simpa using hn
        have hn1 : ((newP l).2 != 0) = true := by simpa using hn
        clear hb HB
        go_wp2
        go_ret
        exact ⟨rfl, HB2.out⟩
end Go.Proofs.Ytphdbombgljamaa.Mk
