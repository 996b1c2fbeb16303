/- By any set of special tokens any text's items, and the mark that begins it: for every input, without a condition. -/
import Derived.Test.YtphdbombgljamaaRows
import Derived.Test.YtphdbombgljamaaRowAid
import Derived.Test.YtphdbombgljamaaMarkParses
namespace Go.Proofs.Ytphdbombgljamaa.LawMarkParses
open Go.ChangeShapes Go.WideShapes Go.ChangeAt Go.RowKit Go.Proofs.YtphdbombgljamaaW.PrintWords Go.Proofs.Ytphdbombgljamaa.Rf Go.Proofs.Ytphdbombgljamaa.Ra
open Go.ChangeMaps (open_string shut_string)
set_option linter.unusedVariables false
theorem own : ownKnob Try.prog.godebug = none := by kernel_rfl
theorem laidOut : laidOutB Try.prog = true := by kernel_rfl
set_option maxRecDepth 100000 in
theorem opens_sp : Opens Try.prog k52 52 (fun x => (Lit.int .i64 x.f0).wf = true ∧ x.f1.size ≤ 9223372036854775807) := by
  intro H enc w base held fuel cs x h
  obtain ⟨y0, y1, n, _, hl, h0, h1⟩ := trod_struct2 Try.underlying52 h
  have hl2 : cs.length = 2 := hl
  obtain ⟨a, e0, q0⟩ := opens_int Try.underlying3 h0
  obtain ⟨b, e1, q1⟩ := opens_string Try.underlying9 h1
  match cs, hl2 with
  | [c0, c1], _ =>
    have e0' : ([c0] : List Value) = [.int .i64 a] := e0
    have e1' : ([c1] : List Value) = [.string b] := e1
    injection e0' with e0' _
    injection e1' with e1' _
    subst e0'; subst e1'
    exact ⟨⟨a, b⟩, k52_mk _ _, q0, q1⟩
set_option maxRecDepth 100000 in
theorem lifted (os : Os) (started : os.Started) (H : Type) (enc : TypeId × Value → H) :
    ReturnsInHanded {} Try.checked os 3 .any (Rows.markParsesSpec.pre6 enc Try.prog Try.f3 Rows.markParsesRow.domain false) (Rows.markParsesSpec.post enc Try.prog Try.f3 false true false false) := by
  refine returnsInHanded_of_change (C := Try.checked) own started (by kernel_rfl) Try.func3
    (ChangeSpec.witness6 (enc := enc) (C := Try.checked) false ⟨#[], #[.slice none 0 0, .string ByteArray.empty], []⟩ 8 (by kernel_rfl) (by kernel_rfl) (by kernel_rfl) (by kernel_rfl)) ?_
  intro W base args ds gs before hval0 hW hcnd _
  have hval : ∀ (j : Nat) t v, Try.f3.params[j]? = some t → args[j]? = some v → Value.okWide Try.prog W .any base t v := hval0
  have hW' := hW
  obtain ⟨p, q, hA0, hV, rfl, hfz, hnd⟩ := hW
  have hA : DataW.TrodAll enc Try.prog W 0 (fun _ => true) true Try.f3.params.toList args.toList ds p := hA0
  rw [Try.params3] at hA hval
  obtain ⟨v0, vs0, d0, ds0, p0, q0, hargs, rfl, rfl, h0, r0⟩ := trodAll_cons hA
  obtain ⟨v1, vs1, d1, ds1, p1, q1, rfl, rfl, rfl, h1, r1⟩ := trodAll_cons r0
  obtain ⟨rfl, rfl, rfl⟩ := trodAll_nil r1
  obtain rfl : args = #[v0, v1] := by cases args; simp_all
  obtain ⟨rfl, rfl⟩ := trodVars_none hV
  obtain ⟨a0, len0, cap0, rfl⟩ := okWide_slice Try.underlying22 (hval 0 22 v0 rfl rfl)
  have k0 := h0
  have lt0 : ∀ x ∈ p0, x.block < W.heap.size := by obtain ⟨m, hm⟩ := k0; exact DataW.trod_lt m _ _ _ hm
  obtain ⟨z0, w0, s0⟩ : ∃ zs : List S52, (Kd.slice 52 k52).K W zs [.slice a0 len0 cap0] ∧ zs.length ≤ 9223372036854775807 := by
    obtain ⟨fuel, hf⟩ := h0
    obtain ⟨zs, hk, hq⟩ := opens_slice Try.underlying22 (by kernel_rfl) opens_sp hf
    exact ⟨zs, hk, hq.1⟩
  obtain ⟨A, c, e, hc, hr⟩ := w0
  injection e with e _
  injection e with e1 e2 e3
  subst e1; subst e2; subst e3
  obtain ⟨a1, rfl, rfl, rfl, y1⟩ := open_string Try.underlying9 (hval 1 9 v1 rfl rfl) h1
  clear hA0 hval0
  refine (Mk.parses_walk a0 cap0 z0 a1 W hr hc s0 (by simpa [maxLen] using y1)).mono fun e W' ⟨he, bel⟩ => ?_
  subst he
  exact ⟨_, rfl, _, _, _, [], _, [], hW', trodAll_mk1 (shut_bool Try.underlying4 _), (trodAll_cons_mk (Below.trod laidOut (by kernel_rfl) (of_decide_eq_true (by kernel_rfl)) k0 bel lt0) (trodAll_cons_mk (shut_string Try.underlying9 y1) trodAll_mk0)), rfl, bel.frame _, fun h => by cases h⟩
theorem over : Rows.markParsesRow.holds Try.pinned (OpenSpec.ofChange Rows.markParsesSpec) :=
  OpenClaim.holds_of_wide 3 Try.f3 rfl rfl rfl rfl rfl rfl rfl ⟨rfl, rfl, rfl, rfl, rfl⟩ rfl rfl rfl rfl rfl (by kernel_rfl) Try.func3 (by kernel_rfl)
    (of_decide_eq_true (by kernel_rfl)) (by unfold Func.isWrapper; first | (rw [if_pos (by decide +kernel)]; kernel_rfl) | (rw [if_neg (by decide +kernel)]; exact ⟨rfl, rfl⟩))
    (fun os started H enc _ => lifted os started H enc)
end Go.Proofs.Ytphdbombgljamaa.LawMarkParses
namespace Go.Proofs.Ytphdbombgljamaa
/-- The row, under a short name, for the claim. -/
theorem markParses_holds : Rows.MarkParsesSaid := LawMarkParses.over
#print axioms markParses_holds
end Go.Proofs.Ytphdbombgljamaa
