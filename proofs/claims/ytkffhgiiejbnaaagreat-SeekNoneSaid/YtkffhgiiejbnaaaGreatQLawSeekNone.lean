/- By no vocabulary nothing is looked for: for every input, without a condition. -/
import Derived.Test.YtkffhgiiejbnaaaGreatRows
import Derived.Test.YtkffhgiiejbnaaaGreatQRowAid
import Derived.Test.YtkffhgiiejbnaaaGreatQSkJ
set_option maxRecDepth 100000
set_option linter.unusedVariables false
set_option linter.unusedSimpArgs false
namespace Go.Proofs.YtkffhgiiejbnaaaGreat.LawSeekNone
open Go.ChangeShapes Go.WideShapes Go.ChangeAt Go.RowKit YtkffhgiiejbnaaaGreatW.PrintWords Rf Ra
open Go.ChangeMaps (open_string shut_string)
theorem own : ownKnob Tryz.prog.godebug = none := by kernel_rfl
theorem laidOut : laidOutB Tryz.prog = true := by kernel_rfl
theorem lifted (os : Os) (started : os.Started) (H : Type) (enc : TypeId × Value → H) :
  ReturnsInHanded {} Tryz.checked os 10 .any (Rows.seekNoneSpec.pre6 enc Tryz.prog Tryz.f10 Rows.seekNoneRow.domain false) (Rows.seekNoneSpec.post enc Tryz.prog Tryz.f10 false true false false) := by
 refine returnsInHanded_of_change (C := Tryz.checked) own started (by kernel_rfl) Tryz.func10
  (ChangeSpec.witness6 (enc := enc) (C := Tryz.checked) false ⟨#[], #[.slice none 0 0, .slice none 0 0], []⟩ 8 (by kernel_rfl) (by kernel_rfl) (by kernel_rfl) (by kernel_rfl)) ?_
 intro W base args ds gs before hval0 hW hcnd _
 have hval : ∀ (j : Nat) t v, Tryz.f10.params[j]? = some t → args[j]? = some v → Value.okWide Tryz.prog W .any base t v := hval0
 have hW' := hW
 obtain ⟨p, q, hA0, hV, rfl, hfz, hnd⟩ := hW
 have hA : DataW.TrodAll enc Tryz.prog W 0 (fun _ => true) true Tryz.f10.params.toList args.toList ds p := hA0
 rw [Tryz.params10] at hA hval
 obtain ⟨v0, vs0, d0, ds0, p0, q0, hargs, rfl, rfl, h0, r0⟩ := trodAll_cons hA
 obtain ⟨v1, vs1, d1, ds1, p1, q1, rfl, rfl, rfl, h1, r1⟩ := trodAll_cons r0
 obtain ⟨rfl, rfl, rfl⟩ := trodAll_nil r1
 obtain rfl : args = #[v0, v1] := by cases args; simp_all
 obtain ⟨rfl, rfl⟩ := trodVars_none hV
 obtain ⟨a0, len0, c0, rfl⟩ := okWide_slice Tryz.underlying41 (hval 0 41 v0 rfl rfl)
 have k0 := h0
 have lt0 : ∀ x ∈ p0, x.block < W.heap.size := by obtain ⟨m, hm⟩ := k0; exact DataW.trod_lt m _ _ _ hm
 obtain ⟨z0, u0, hl0, hq0⟩ : ∃ zs : List (Int), (Kd.slice 3 (Kd.int .i64)).K W zs [.slice a0 len0 c0] ∧ zs.length ≤ 9223372036854775807 ∧ ∀ x ∈ zs, QInt .i64 x := by
  obtain ⟨fuel, hf⟩ := h0
  exact opens_slice Tryz.underlying41 (by kernel_rfl) (opens_int Tryz.underlying3) hf
 obtain ⟨A0, C0, e0, hc0, hr0⟩ := u0
 injection e0 with e0 _
 injection e0 with e0a e0b e0c
 subst e0a; subst e0b; subst e0c
 obtain ⟨a1, len1, c1, rfl⟩ := okWide_slice Tryz.underlying41 (hval 1 41 v1 rfl rfl)
 have k1 := h1
 have lt1 : ∀ x ∈ p1, x.block < W.heap.size := by obtain ⟨m, hm⟩ := k1; exact DataW.trod_lt m _ _ _ hm
 obtain ⟨z1, u1, hl1, hq1⟩ : ∃ zs : List (Int), (Kd.slice 3 (Kd.int .i64)).K W zs [.slice a1 len1 c1] ∧ zs.length ≤ 9223372036854775807 ∧ ∀ x ∈ zs, QInt .i64 x := by
  obtain ⟨fuel, hf⟩ := h1
  exact opens_slice Tryz.underlying41 (by kernel_rfl) (opens_int Tryz.underlying3) hf
 obtain ⟨A1, C1, e1, hc1, hr1⟩ := u1
 injection e1 with e1 _
 injection e1 with e1a e1b e1c
 subst e1a; subst e1b; subst e1c
 clear hA0 hval0
 refine (Sk.seekNone_any _ _ _ _ _ _ _).mono fun e W' ⟨he, bel⟩ => ?_
 subst he
 exact ⟨_, rfl, _, _, _, [], _, [], hW', trodAll_mk1 (shut_bool Tryz.underlying4 _), (trodAll_cons_mk (Below.trod laidOut (by kernel_rfl) (of_decide_eq_true (by kernel_rfl)) k0 bel lt0) (trodAll_cons_mk (Below.trod laidOut (by kernel_rfl) (of_decide_eq_true (by kernel_rfl)) k1 bel lt1) trodAll_mk0)), rfl, bel.frame _, fun h => by cases h⟩
theorem over : Rows.seekNoneRow.holds Tryz.pinned (OpenSpec.ofChange Rows.seekNoneSpec) :=
 OpenClaim.holds_of_wide 10 Tryz.f10 rfl rfl rfl rfl rfl rfl rfl ⟨rfl, rfl, rfl, rfl, rfl⟩ rfl rfl rfl rfl rfl (by kernel_rfl) Tryz.func10 (by kernel_rfl)
  (of_decide_eq_true (by kernel_rfl)) (by unfold Func.isWrapper; first | (rw [if_pos (by decide +kernel)]; kernel_rfl) | (rw [if_neg (by decide +kernel)]; exact ⟨rfl, rfl⟩))
  (fun os started H enc _ => lifted os started H enc)
end Go.Proofs.YtkffhgiiejbnaaaGreat.LawSeekNone
namespace Go.Proofs.YtkffhgiiejbnaaaGreat
theorem seekNone_holds : Rows.SeekNoneSaid := LawSeekNone.over
#print axioms seekNone_holds
end Go.Proofs.YtkffhgiiejbnaaaGreat
