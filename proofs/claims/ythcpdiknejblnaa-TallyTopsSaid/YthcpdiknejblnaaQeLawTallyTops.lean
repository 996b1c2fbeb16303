/- The ids,and the pairs,that came most often,in order: for every input,without a condition. -/
import Derived.Test.YthcpdiknejblnaaRows
import Derived.Test.YthcpdiknejblnaaQeRowAid
import Derived.Test.YthcpdiknejblnaaQeTaS
set_option maxRecDepth 100000
set_option linter.unusedVariables false
set_option linter.unusedSimpArgs false
namespace Go.Proofs.Ythcpdiknejblnaa.LawTallyTops
open Go.ChangeShapes Go.WideShapes Go.ChangeAt Go.RowKit YthcpdiknejblnaaW.PrintWords Rf Ra
open Go.ChangeMaps (open_string shut_string)
theorem own:ownKnob Try.prog.godebug=none:=Z5
theorem laidOut:laidOutB Try.prog=true:=Z5
theorem lifted (os:Os) (started:os.Started) (H:Type) (enc:TypeId × Value->H) :
  ReturnsInHanded {} Try.checked os 3 .any (Rows.tallyTopsSpec.pre6 enc Try.prog Try.f3 Rows.tallyTopsRow.domain false) (Rows.tallyTopsSpec.post enc Try.prog Try.f3 false true false false):=by
 refine returnsInHanded_of_change (C:=Try.checked) own started (Z5) Try.func3
  (ChangeSpec.witness6 (enc:=enc) (C:=Try.checked) false ⟨#[],#[.slice none 0 0,.int .i64 0],[]⟩ 8 (Z5) (Z5) (Z5) (Z5)) ?_
 intro W base args ds gs before hval0 hW hcnd _
 have hval:∀ (j:Nat) t v,Try.f3.params[j]?=some t->args[j]?=some v->Value.okWide Try.prog W .any base t v:=hval0
 have hW':=hW
 obtain⟨p,q,hA0,hV,rfl,hfz,hnd⟩:=hW
 have hA:DataW.TrodAll enc Try.prog W 0 (fun _=>true) true Try.f3.params.toList args.toList ds p:=hA0
 rw[Try.params3]at hA hval
 obtain⟨v0,vs0,d0,ds0,p0,q0,hargs,rfl,rfl,h0,r0⟩:=trodAll_cons hA
 obtain⟨v1,vs1,d1,ds1,p1,q1,rfl,rfl,rfl,h1,r1⟩:=trodAll_cons r0
 obtain⟨rfl,rfl,rfl⟩:=trodAll_nil r1
 obtain rfl:args=#[v0,v1]:=by cases args;simp_all
 obtain⟨rfl,rfl⟩:=trodVars_none hV
 obtain⟨a0,len0,c0,rfl⟩:=okWide_slice Try.underlying22 (hval 0 22 v0 rfl rfl)
 have k0:=h0
 have lt0:∀ x∈p0,x.block<W.heap.size:=by obtain⟨m,hm⟩:=k0;exact DataW.trod_lt m _ _ _ hm
 obtain⟨z0,u0,hl0,hq0⟩:∃ zs:List (List Int),(Kd.slice 37 (Kd.slice 3 (Kd.int .i64))).K W zs [.slice a0 len0 c0]/\zs.length≤9223372036854775807/\∀ x∈zs,(fun xs:List Int=>xs.length≤9223372036854775807/\∀ x∈xs,QInt .i64 x) x:=by
  obtain⟨fuel,hf⟩:=h0
  exact opens_slice Try.underlying22 (Z5) (opens_slice Try.underlying37 (Z5) (opens_int Try.underlying3)) hf
 obtain⟨A0,C0,e0,hc0,hr0⟩:=u0
 injection e0 with e0 _
 injection e0 with e0a e0b e0c
 subst e0a;subst e0b;subst e0c
 obtain⟨a1,rfl,rfl,rfl,w1⟩:=open_int Try.underlying3 (hval 1 3 v1 rfl rfl) h1
 clear hA0 hval0
 refine(Ta.tallyTops_any _ hr0 hc0 hl0).mono fun e W' ⟨he,bel⟩=>?_
 subst he
 exact⟨_,rfl,_,_,_,[],_,[],hW',trodAll_mk1 (shut_bool Try.underlying4 _),(trodAll_cons_mk (Below.trod laidOut (Z5) (of_decide_eq_true (Z5)) k0 bel lt0) (trodAll_cons_mk (shut_int Try.underlying3 w1) trodAll_mk0)),rfl,bel.frame _,fun h=>by cases h⟩
theorem over:Rows.tallyTopsRow.holds Try.pinned (OpenSpec.ofChange Rows.tallyTopsSpec) :=
 OpenClaim.holds_of_wide 3 Try.f3 rfl rfl rfl rfl rfl rfl rfl ⟨rfl,rfl,rfl,rfl,rfl⟩ rfl rfl rfl rfl rfl (Z5) Try.func3 (Z5)
  (of_decide_eq_true (Z5)) (by unfold Func.isWrapper;first|(rw[if_pos (by decide +kernel)];kernel_rfl)|(rw[if_neg (by decide +kernel)];exact⟨rfl,rfl⟩))
  (fun os started H enc _=>lifted os started H enc)
end Go.Proofs.Ythcpdiknejblnaa.LawTallyTops
namespace Go.Proofs.Ythcpdiknejblnaa
theorem tallyTops_holds:Rows.TallyTopsSaid:=LawTallyTops.over
#print axioms tallyTops_holds
end Go.Proofs.Ythcpdiknejblnaa
