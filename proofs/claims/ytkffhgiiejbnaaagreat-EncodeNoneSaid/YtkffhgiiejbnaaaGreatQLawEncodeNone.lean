/- By no vocabulary nothing is made: for every input, without a condition. -/
import Derived.Test.YtkffhgiiejbnaaaGreatRows
import Derived.Test.YtkffhgiiejbnaaaGreatQRowAid
import Derived.Test.YtkffhgiiejbnaaaGreatQEncN
set_option linter.unusedVariables false
set_option linter.unusedSimpArgs false
namespace Go.Proofs.YtkffhgiiejbnaaaGreat.LawEncodeNone
open Go.ChangeShapes Go.WideShapes Go.ChangeAt Go.RowKit Go.Proofs.YtkffhgiiejbnaaaGreatW.PrintWords Go.Proofs.YtkffhgiiejbnaaaGreat.Rf Go.Proofs.YtkffhgiiejbnaaaGreat.Ra
open Go.ChangeMaps (open_string shut_string)
set_option linter.unusedVariables false
theorem own : ownKnob Tryz.prog.godebug = none := by kernel_rfl
theorem laidOut : laidOutB Tryz.prog = true := by kernel_rfl
set_option maxRecDepth 100000 in
theorem lifted (os : Os) (started : os.Started) (H : Type) (enc : TypeId × Value → H) :
    ReturnsInHanded {} Tryz.checked os 5 .any (Rows.encodeNoneSpec.pre6 enc Tryz.prog Tryz.f5 Rows.encodeNoneRow.domain false) (Rows.encodeNoneSpec.post enc Tryz.prog Tryz.f5 false true false false) := by
  refine returnsInHanded_of_change (C := Tryz.checked) own started (by kernel_rfl) Tryz.func5
    (ChangeSpec.witness6 (enc := enc) (C := Tryz.checked) false ⟨#[], #[.string ByteArray.empty, .slice none 0 0], []⟩ 8 (by kernel_rfl) (by kernel_rfl) (by kernel_rfl) (by kernel_rfl)) ?_
  intro W base args ds gs before hval0 hW hcnd _
  have hval : ∀ (j : Nat) t v, Tryz.f5.params[j]? = some t → args[j]? = some v → Value.okWide Tryz.prog W .any base t v := hval0
  have hW' := hW
  obtain ⟨p, q, hA0, hV, rfl, hfz, hnd⟩ := hW
  have hA : DataW.TrodAll enc Tryz.prog W 0 (fun _ => true) true Tryz.f5.params.toList args.toList ds p := hA0
  rw [Tryz.params5] at hA hval
  obtain ⟨v0, vs0, d0, ds0, p0, q0, hargs, rfl, rfl, h0, r0⟩ := trodAll_cons hA
  obtain ⟨v1, vs1, d1, ds1, p1, q1, rfl, rfl, rfl, h1, r1⟩ := trodAll_cons r0
  obtain ⟨rfl, rfl, rfl⟩ := trodAll_nil r1
  obtain rfl : args = #[v0, v1] := by cases args; simp_all
  obtain ⟨rfl, rfl⟩ := trodVars_none hV
  obtain ⟨a0, rfl, rfl, rfl, y0⟩ := open_string Tryz.underlying9 (hval 0 9 v0 rfl rfl) h0
  have s0 : a0.size ≤ 9223372036854775807 := by simpa [maxLen] using y0
  obtain ⟨a1, len1, c1, rfl⟩ := okWide_slice Tryz.underlying41 (hval 1 41 v1 rfl rfl)
  have k1 := h1
  have lt1 : ∀ x ∈ p1, x.block < W.heap.size := by obtain ⟨m, hm⟩ := k1; exact DataW.trod_lt m _ _ _ hm
  obtain ⟨z1, u1, hl1, hq1⟩ : ∃ zs : List (Int), (Kd.slice 3 (Kd.int .i64)).K W zs [.slice a1 len1 c1] ∧ zs.length ≤ 9223372036854775807 ∧ ∀ x ∈ zs, QInt .i64 x := by
    obtain ⟨fuel, hf⟩ := h1
    exact opens_slice Tryz.underlying41 (by kernel_rfl) (opens_int Tryz.underlying3) hf
  obtain ⟨A1, C1, e1, hc1, hr1⟩ := u1
  injection e1 with e1 _
  injection e1 with e1a e1b e1c
  subst e1a; subst e1b; subst e1c
  clear hA0 hval0
  refine (En.encodeNone_any a0 _ _ _ _).mono fun e W' ⟨he, bel⟩ => ?_
  subst he
  exact ⟨_, rfl, _, _, _, [], _, [], hW', trodAll_mk1 (shut_bool Tryz.underlying4 _), (trodAll_cons_mk (shut_string Tryz.underlying9 y0) (trodAll_cons_mk (Below.trod laidOut (by kernel_rfl) (of_decide_eq_true (by kernel_rfl)) k1 bel lt1) trodAll_mk0)), rfl, bel.frame _, fun h => by cases h⟩
theorem over : Rows.encodeNoneRow.holds Tryz.pinned (OpenSpec.ofChange Rows.encodeNoneSpec) :=
  OpenClaim.holds_of_wide 5 Tryz.f5 rfl rfl rfl rfl rfl rfl rfl ⟨rfl, rfl, rfl, rfl, rfl⟩ rfl rfl rfl rfl rfl (by kernel_rfl) Tryz.func5 (by kernel_rfl)
    (of_decide_eq_true (by kernel_rfl)) (by unfold Func.isWrapper; first | (rw [if_pos (by decide +kernel)]; kernel_rfl) | (rw [if_neg (by decide +kernel)]; exact ⟨rfl, rfl⟩))
    (fun os started H enc _ => lifted os started H enc)
end Go.Proofs.YtkffhgiiejbnaaaGreat.LawEncodeNone
namespace Go.Proofs.YtkffhgiiejbnaaaGreat
theorem encodeNone_holds : Rows.EncodeNoneSaid := LawEncodeNone.over
#print axioms encodeNone_holds
end Go.Proofs.YtkffhgiiejbnaaaGreat
