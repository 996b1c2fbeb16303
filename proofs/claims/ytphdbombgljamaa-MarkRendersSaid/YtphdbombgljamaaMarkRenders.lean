/- Any items' bytes, or that one is none: the law's walk; no condition. -/
import Derived.Test.YtphdbombgljamaaRendRef
import Derived.Test.YtphdbombgljamaaMarkParses
namespace Go.Proofs.Ytphdbombgljamaa.Mk
open Go.RowKit Go.Proofs.YtphdbombgljamaaW.PrintWords Go.Proofs.YtphdbombgljamaaW.PrintLast Go.Proofs.YtphdbombgljamaaW.PrintMore Go.Proofs.Ytphdbombgljamaa.Rf Go.Proofs.Ytphdbombgljamaa.Aid Go.Proofs.Ytphdbombgljamaa.Mp
set_option linter.unusedVariables false
set_option linter.unusedSimpArgs false
set_option maxHeartbeats 400000

set_option maxRecDepth 100000 in
set_option maxHeartbeats 1000000 in
theorem renders_walk (A : Option Addr) (c : Nat) (l : List Sp) (B : Option Addr) (d : Nat) (xs : List Int) (w : World) (hr : Kd.C kSp w A l.length l) (hc : l.length ≤ c) (hl : l.length ≤ 9223372036854775807)
    (hr1 : Kd.C (Kd.int .i64) w B xs.length xs) (hc1 : xs.length ≤ d) (hl1 : xs.length ≤ 9223372036854775807) :
    Calls Try.prog 7 #[.slice A l.length c, .slice B xs.length d] w fun e w' => e = .returned (.bool true) ∧ Below w.heap.size w w' := by
  have HR := As.mk hr
  have HC := As.mk hc
  have HR1 := As.mk hr1
  have HC1 := As.mk hc1
  clear hr hc hr1 hc1
  cases hg : greatP l with
  | true =>
    have HG := As.mk hg
    clear hg
    go_enter Try.func7, Try.ntmps7
    go_wp2_with fail
    refine (great_any A c l _ HR.out HC.out hl).mono ?_
    rw [HG.out]
    rintro e w1 ⟨rfl, ⟨n, rfl⟩⟩
    go_wp2_with fail
    refine (awake_any _).mono ?_
    rintro e w1 ⟨rfl, hb⟩
    go_wp2
    go_ret
    exact ⟨rfl, bt_ (pw_below_drewN (Below.refl _ _) _) hb⟩
  | false =>
    have HG := As.mk hg
    clear hg
    by_cases h5 : 300 < xs.length
    · have h5i : (300 : Int) < (xs.length : Int) := by omega
      go_enter Try.func7, Try.ntmps7
      go_wp2_with fail
      refine (great_any A c l _ HR.out HC.out hl).mono ?_
      rw [HG.out]
      rintro e w1 ⟨rfl, ⟨n, rfl⟩⟩
      go_wp2_with fail
      refine (awake_any _).mono ?_
      rintro e w1 ⟨rfl, hb⟩
      go_wp2
      go_ret
      exact ⟨rfl, bt_ (pw_below_drewN (Below.refl _ _) _) hb⟩
    · have h5i : ¬ (300 : Int) < (xs.length : Int) := by omega
      go_enter Try.func7, Try.ntmps7
      go_wp2_with fail
      refine (great_any A c l _ HR.out HC.out hl).mono ?_
      rw [HG.out]
      rintro e w1 ⟨rfl, ⟨n, rfl⟩⟩
      go_wp2_with fail
      refine (awake_any _).mono ?_
      rintro e w1 ⟨rfl, hb⟩
      have HB := As.mk (bt_ (pw_below_drewN (Below.refl _ _) _) hb)
      clear hb
      go_wp2_with fail
      refine (new_any A c l _ (Kd.C_below HR.out HB.out) hl).mono ?_
      by_cases hn : (newP l).2 = 0
      rotate_left
      · rw [if_neg hn]
        rintro e w2 ⟨v, rfl, rfl, hb⟩
        have HB2 := As.mk (bt_ HB.out hb)
        have hn0 : ((newP l).2 == 0) = false := by simpa using hn
        have hn1 : ((newP l).2 != 0) = true := by simpa using hn
        clear hb HB
        go_wp2
        go_ret
        exact ⟨rfl, HB2.out⟩
      rw [if_pos hn, hn]
      rintro e w2 ⟨v, rfl, ⟨p, rfl, hp⟩, hb⟩
      have HB2 := As.mk (bt_ HB.out hb)
      have HP := As.mk hp
      clear hb hp HB
      obtain ⟨r, hr⟩ : ∃ r, rendF (hasP l) xs = r := ⟨_, rfl⟩
      have HQ := As.mk hr
      clear hr
      go_wp2_with fail
      refine (render_any HP.out B d xs (Kd.C_below HR1.out HB2.out) (by omega)).mono ?_
      rw [HQ.out]
      rintro e w3 ⟨rfl, hb⟩
      have HB3 := As.mk (bt_ HB2.out hb)
      clear hb
      unfold rendV
      cases r with
      | none =>
        go_wp2_with fail
        refine (refRender_any A c l B d xs _ (Kd.C_below HR.out HB3.out) HC.out (Kd.C_below HR1.out HB3.out) HC1.out HP.out.goodS (by omega)).mono ?_
        rw [HQ.out]
        rintro e w4 ⟨rfl, hb⟩
        have HB4 := As.mk (bt_ HB3.out hb)
        clear hb
        unfold rendV
        go_wp2
        go_ret
        exact ⟨rfl, HB4.out⟩
      | some t =>
        go_wp2_with fail
        refine (refRender_any A c l B d xs _ (Kd.C_below HR.out HB3.out) HC.out (Kd.C_below HR1.out HB3.out) HC1.out HP.out.goodS (by omega)).mono ?_
        rw [HQ.out]
        rintro e w4 ⟨rfl, hb⟩
        have HB4 := As.mk (bt_ HB3.out hb)
        clear hb
        unfold rendV
        go_wp2
        go_ret
        exact ⟨rfl, HB4.out⟩
end Go.Proofs.Ytphdbombgljamaa.Mk
