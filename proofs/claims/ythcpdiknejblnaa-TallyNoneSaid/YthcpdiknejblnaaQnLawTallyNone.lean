/- Of no tally nothing comes: for every input,without a condition. -/
import Derived.Test.YthcpdiknejblnaaRows
import Derived.Test.YthcpdiknejblnaaQnRowAid
import Derived.Test.YthcpdiknejblnaaQnTaL
set_option maxRecDepth 100000
set_option linter.unusedVariables false
set_option linter.unusedSimpArgs false
namespace Go.Proofs.Ythcpdiknejblnaa.LawTallyNone
open Go.ChangeShapes Go.WideShapes Go.ChangeAt Go.RowKit YthcpdiknejblnaaW.PrintWords Rf Ra
open Go.ChangeMaps (open_string shut_string)
theorem own:ownKnob Try.prog.godebug=none:=Z5
theorem laidOut:laidOutB Try.prog=true:=Z5
theorem lifted (os:Os) (started:os.Started) (H:Type) (enc:TypeId × Value->H) :
  ReturnsInHanded {} Try.checked os 6 .any (Rows.tallyNoneSpec.pre6 enc Try.prog Try.f6 Rows.tallyNoneRow.domain false) (Rows.tallyNoneSpec.post enc Try.prog Try.f6 false true false false):=by
 refine returnsInHanded_of_change (C:=Try.checked) own started (Z5) Try.func6
  (ChangeSpec.witness6 (enc:=enc) (C:=Try.checked) false ⟨#[],#[.int .i64 0,.slice none 0 0],[]⟩ 8 (Z5) (Z5) (Z5) (Z5)) ?_
 intro W base args ds gs before hval0 hW hcnd _
 have hval:∀ (j:Nat) t v,Try.f6.params[j]?=some t->args[j]?=some v->Value.okWide Try.prog W .any base t v:=hval0
 have hW':=hW
 obtain⟨p,q,hA0,hV,rfl,hfz,hnd⟩:=hW
 have hA:DataW.TrodAll enc Try.prog W 0 (fun _=>true) true Try.f6.params.toList args.toList ds p:=hA0
 rw[Try.params6]at hA hval
 obtain⟨v0,vs0,d0,ds0,p0,q0,hargs,rfl,rfl,h0,r0⟩:=trodAll_cons hA
 obtain⟨v1,vs1,d1,ds1,p1,q1,rfl,rfl,rfl,h1,r1⟩:=trodAll_cons r0
 obtain⟨rfl,rfl,rfl⟩:=trodAll_nil r1
 obtain rfl:args=#[v0,v1]:=by cases args;simp_all
 obtain⟨rfl,rfl⟩:=trodVars_none hV
 obtain⟨a0,rfl,rfl,rfl,w0⟩:=open_int Try.underlying3 (hval 0 3 v0 rfl rfl) h0
 obtain⟨a1,len1,c1,rfl⟩:=okWide_slice Try.underlying37 (hval 1 37 v1 rfl rfl)
 have k1:=h1
 have lt1:∀ x∈p1,x.block<W.heap.size:=by obtain⟨m,hm⟩:=k1;exact DataW.trod_lt m _ _ _ hm
 obtain⟨z1,u1,hl1,hq1⟩:∃ zs:List (Int),(Kd.slice 3 (Kd.int .i64)).K W zs [.slice a1 len1 c1]/\zs.length≤9223372036854775807/\∀ x∈zs,QInt .i64 x:=by
  obtain⟨fuel,hf⟩:=h1
  exact opens_slice Try.underlying37 (Z5) (opens_int Try.underlying3) hf
 obtain⟨A1,C1,e1,hc1,hr1⟩:=u1
 injection e1 with e1 _
 injection e1 with e1a e1b e1c
 subst e1a;subst e1b;subst e1c
 clear hA0 hval0
 refine(Ta.tallyNone_any _ hr1 hc1).mono fun e W' ⟨he,bel⟩=>?_
 subst he
 exact⟨_,rfl,_,_,_,[],_,[],hW',trodAll_mk1 (shut_bool Try.underlying4 _),(trodAll_cons_mk (shut_int Try.underlying3 w0) (trodAll_cons_mk (Below.trod laidOut (Z5) (of_decide_eq_true (Z5)) k1 bel lt1) trodAll_mk0)),rfl,bel.frame _,fun h=>by cases h⟩
theorem over:Rows.tallyNoneRow.holds Try.pinned (OpenSpec.ofChange Rows.tallyNoneSpec) :=
 OpenClaim.holds_of_wide 6 Try.f6 rfl rfl rfl rfl rfl rfl rfl ⟨rfl,rfl,rfl,rfl,rfl⟩ rfl rfl rfl rfl rfl (Z5) Try.func6 (Z5)
  (of_decide_eq_true (Z5)) (by unfold Func.isWrapper;first|(rw[if_pos (by decide +kernel)];kernel_rfl)|(rw[if_neg (by decide +kernel)];exact⟨rfl,rfl⟩))
  (fun os started H enc _=>lifted os started H enc)
end Go.Proofs.Ythcpdiknejblnaa.LawTallyNone
namespace Go.Proofs.Ythcpdiknejblnaa
theorem tallyNone_holds:Rows.TallyNoneSaid:=LawTallyNone.over
#print axioms tallyNone_holds
end Go.Proofs.Ythcpdiknejblnaa
