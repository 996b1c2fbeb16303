/- Of any two lists the windows, the runs between what stays, each with what the second one has there: for every input, without a condition. -/
import Derived.Test.YtphdbombgljamaaRows
import Derived.Test.YtphdbombgljamaaRowAid
import Derived.Test.YtphdbombgljamaaDiffWindows
namespace Go.Proofs.Ytphdbombgljamaa.LawDiffWindows
open Go.ChangeShapes Go.WideShapes Go.ChangeAt Go.RowKit Go.Proofs.YtphdbombgljamaaW.PrintWords Go.Proofs.Ytphdbombgljamaa.Rf Go.Proofs.Ytphdbombgljamaa.Ra
open Go.ChangeMaps (open_string shut_string)
set_option linter.unusedVariables false
theorem own : ownKnob Try.prog.godebug = none := by kernel_rfl
theorem laidOut : laidOutB Try.prog = true := by kernel_rfl
set_option maxRecDepth 100000 in
theorem lifted (os : Os) (started : os.Started) (H : Type) (enc : TypeId × Value → H) :
    ReturnsInHanded {} Try.checked os 4 .any (Rows.diffWindowsSpec.pre6 enc Try.prog Try.f4 Rows.diffWindowsRow.domain false) (Rows.diffWindowsSpec.post enc Try.prog Try.f4 false true false false) := by
  refine returnsInHanded_of_change (C := Try.checked) own started (by kernel_rfl) Try.func4
    (ChangeSpec.witness6 (enc := enc) (C := Try.checked) false ⟨#[], #[.slice none 0 0, .slice none 0 0], []⟩ 8 (by kernel_rfl) (by kernel_rfl) (by kernel_rfl) (by kernel_rfl)) ?_
  intro W base args ds gs before hval0 hW hcnd _
  have hval : ∀ (j : Nat) t v, Try.f4.params[j]? = some t → args[j]? = some v → Value.okWide Try.prog W .any base t v := hval0
  have hW' := hW
  obtain ⟨p, q, hA0, hV, rfl, hfz, hnd⟩ := hW
  have hA : DataW.TrodAll enc Try.prog W 0 (fun _ => true) true Try.f4.params.toList args.toList ds p := hA0
  rw [Try.params4] at hA hval
  obtain ⟨v0, vs0, d0, ds0, p0, q0, hargs, rfl, rfl, h0, r0⟩ := trodAll_cons hA
  obtain ⟨v1, vs1, d1, ds1, p1, q1, rfl, rfl, rfl, h1, r1⟩ := trodAll_cons r0
  obtain ⟨rfl, rfl, rfl⟩ := trodAll_nil r1
  obtain rfl : args = #[v0, v1] := by cases args; simp_all
  obtain ⟨rfl, rfl⟩ := trodVars_none hV
  obtain ⟨a0, len0, c0, rfl⟩ := okWide_slice Try.underlying33 (hval 0 33 v0 rfl rfl)
  have k0 := h0
  have lt0 : ∀ x ∈ p0, x.block < W.heap.size := by obtain ⟨m, hm⟩ := k0; exact DataW.trod_lt m _ _ _ hm
  obtain ⟨z0, u0, hl0, hq0⟩ : ∃ zs : List Int, (Kd.slice 3 (Kd.int .i64)).K W zs [.slice a0 len0 c0] ∧ zs.length ≤ 9223372036854775807 ∧ ∀ x ∈ zs, QInt .i64 x := by
    obtain ⟨fuel, hf⟩ := h0
    exact opens_slice Try.underlying33 (by kernel_rfl) (opens_int Try.underlying3) hf
  obtain ⟨A0, C0, e0, hc0, hr0⟩ := u0
  injection e0 with e0 _
  injection e0 with e0a e0b e0c
  subst e0a; subst e0b; subst e0c
  obtain ⟨a1, len1, c1, rfl⟩ := okWide_slice Try.underlying33 (hval 1 33 v1 rfl rfl)
  have k1 := h1
  have lt1 : ∀ x ∈ p1, x.block < W.heap.size := by obtain ⟨m, hm⟩ := k1; exact DataW.trod_lt m _ _ _ hm
  obtain ⟨z1, u1, hl1, hq1⟩ : ∃ zs : List Int, (Kd.slice 3 (Kd.int .i64)).K W zs [.slice a1 len1 c1] ∧ zs.length ≤ 9223372036854775807 ∧ ∀ x ∈ zs, QInt .i64 x := by
    obtain ⟨fuel, hf⟩ := h1
    exact opens_slice Try.underlying33 (by kernel_rfl) (opens_int Try.underlying3) hf
  obtain ⟨A1, C1, e1, hc1, hr1⟩ := u1
  injection e1 with e1 _
  injection e1 with e1a e1b e1c
  subst e1a; subst e1b; subst e1c
  clear hA0 hval0
  refine (Df.law_windows hr0 hc0 hr1 hc1).mono fun e W' ⟨he, bel⟩ => ?_
  subst he
  exact ⟨_, rfl, _, _, _, [], _, [], hW', trodAll_mk1 (shut_bool Try.underlying4 _), (trodAll_cons_mk (Below.trod laidOut (by kernel_rfl) (of_decide_eq_true (by kernel_rfl)) k0 bel lt0) (trodAll_cons_mk (Below.trod laidOut (by kernel_rfl) (of_decide_eq_true (by kernel_rfl)) k1 bel lt1) trodAll_mk0)), rfl, bel.frame _, fun h => by cases h⟩
theorem over : Rows.diffWindowsRow.holds Try.pinned (OpenSpec.ofChange Rows.diffWindowsSpec) :=
  OpenClaim.holds_of_wide 4 Try.f4 rfl rfl rfl rfl rfl rfl rfl ⟨rfl, rfl, rfl, rfl, rfl⟩ rfl rfl rfl rfl rfl (by kernel_rfl) Try.func4 (by kernel_rfl)
    (of_decide_eq_true (by kernel_rfl)) (by unfold Func.isWrapper; first | (rw [if_pos (by decide +kernel)]; kernel_rfl) | (rw [if_neg (by decide +kernel)]; exact ⟨rfl, rfl⟩))
    (fun os started H enc _ => lifted os started H enc)
end Go.Proofs.Ytphdbombgljamaa.LawDiffWindows
namespace Go.Proofs.Ytphdbombgljamaa
/-- The row, under a short name, for the claim. -/
theorem diffWindows_holds : Rows.DiffWindowsSaid := LawDiffWindows.over
#print axioms diffWindows_holds
end Go.Proofs.Ytphdbombgljamaa

