/- A text that is looked for in what is made of another one is found wherever it stands there,and nowhere else: for every input,without a condition. -/
import Derived.Test.YtkffhgiiejbnaaaGreatRows
import Derived.Test.YtkffhgiiejbnaaaGreatZRowAid
import Derived.Test.YtkffhgiiejbnaaaGreatZRowCase
import Derived.Test.YtkffhgiiejbnaaaGreatZSkT
set_option maxRecDepth 100000
set_option linter.unusedVariables false
set_option linter.unusedSimpArgs false
namespace Go.Proofs.YtkffhgiiejbnaaaGreat.LawSeekTexts
open Go.ChangeShapes Go.WideShapes Go.ChangeAt Go.RowKit YtkffhgiiejbnaaaGreatW.PrintWords Rf Ra
open Go.ChangeMaps (open_string shut_string)
theorem own:ownKnob Tryz.prog.godebug=none:=Z16
theorem laidOut:laidOutB Tryz.prog=true:=Z16
theorem lifted (os:Os) (started:os.Started) (H:Type) (enc:TypeId × Value->H) :
  ReturnsInHanded {} Tryz.checked os 6 .any (Rows.seekTextsSpec.pre6 enc Tryz.prog Tryz.f6 Rows.seekTextsRow.domain false) (Rows.seekTextsSpec.post enc Tryz.prog Tryz.f6 false true false false):=by
 refine returnsInHanded_of_change (C:=Tryz.checked) own started (Z16) Tryz.func6
  (ChangeSpec.witness6 (enc:=enc) (C:=Tryz.checked) false ⟨#[],#[.agg #[.slice none 0 0,.slice none 0 0,.slice none 0 0,.slice none 0 0],.string ByteArray.empty,.string ByteArray.empty],[]⟩ 8 (Z16) (Z16) (Z16) (Z16)) ?_
 intro W base args ds gs before hval0 hW hcnd _
 have hval:∀ (j:Nat) t v,Tryz.f6.params[j]?=some t->args[j]?=some v->Value.okWide Tryz.prog W .any base t v:=hval0
 have hW':=hW
 obtain⟨p,q,hA0,hV,rfl,hfz,hnd⟩:=hW
 have hA:DataW.TrodAll enc Tryz.prog W 0 (fun _=>true) true Tryz.f6.params.toList args.toList ds p:=hA0
 rw[Tryz.params6]at hA hval
 obtain⟨v0,vs0,d0,ds0,p0,q0,hargs,rfl,rfl,h0,r0⟩:=trodAll_cons hA
 obtain⟨v1,vs1,d1,ds1,p1,q1,rfl,rfl,rfl,h1,r1⟩:=trodAll_cons r0
 obtain⟨v2,vs2,d2,ds2,p2,q2,rfl,rfl,rfl,h2,r2⟩:=trodAll_cons r1
 obtain⟨rfl,rfl,rfl⟩:=trodAll_nil r2
 obtain rfl:args=#[v0,v1,v2]:=by cases args;simp_all
 obtain⟨rfl,rfl⟩:=trodVars_none hV
 have k0:=h0
 have lt0:∀ x∈p0,x.block<W.heap.size:=by obtain⟨m,hm⟩:=k0;exact DataW.trod_lt m _ _ _ hm
 obtain⟨_,_,_,_,_,_,_,_,_,_,_,_,rfl,y0⟩:=open_case (hval 0 27 v0 rfl rfl) h0
 obtain⟨a1,rfl,rfl,rfl,y1⟩:=open_string Tryz.underlying9 (hval 1 9 v1 rfl rfl) h1
 have s1:a1.size≤9223372036854775807:=by simpa[maxLen] using y1
 obtain⟨a2,rfl,rfl,rfl,y2⟩:=open_string Tryz.underlying9 (hval 2 9 v2 rfl rfl) h2
 have s2:a2.size≤9223372036854775807:=by simpa[maxLen] using y2
 clear hA0 hval0
 refine(Rt.seekTexts_any y0 _ _).mono fun e W' ⟨he,bel⟩=>?_
 subst he
 exact⟨_,rfl,_,_,_,[],_,[],hW',trodAll_mk1 (shut_bool Tryz.underlying4 _),(trodAll_cons_mk (Below.trod laidOut (Z16) (of_decide_eq_true (Z16)) k0 bel lt0) (trodAll_cons_mk (shut_string Tryz.underlying9 y1) (trodAll_cons_mk (shut_string Tryz.underlying9 y2) trodAll_mk0))),rfl,bel.frame _,fun h=>by cases h⟩
theorem over:Rows.seekTextsRow.holds Tryz.pinned (OpenSpec.ofChange Rows.seekTextsSpec) :=
 OpenClaim.holds_of_wide 6 Tryz.f6 rfl rfl rfl rfl rfl rfl rfl ⟨rfl,rfl,rfl,rfl,rfl⟩ rfl rfl rfl rfl rfl (Z16) Tryz.func6 (Z16)
  (of_decide_eq_true (Z16)) (by unfold Func.isWrapper;first|(rw[if_pos (by decide +kernel)];kernel_rfl)|(rw[if_neg (by decide +kernel)];exact⟨rfl,rfl⟩))
  (fun os started H enc _=>lifted os started H enc)
end Go.Proofs.YtkffhgiiejbnaaaGreat.LawSeekTexts
namespace Go.Proofs.YtkffhgiiejbnaaaGreat
theorem seekTexts_holds:Rows.SeekTextsSaid:=LawSeekTexts.over
#print axioms seekTexts_holds
end Go.Proofs.YtkffhgiiejbnaaaGreat
