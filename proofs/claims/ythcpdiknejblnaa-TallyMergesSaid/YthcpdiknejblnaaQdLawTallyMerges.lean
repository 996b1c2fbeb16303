/- Merged,tallies count what was added to each;with itself twice as much: for every input,without a condition. -/
import Derived.Test.YthcpdiknejblnaaRows
import Derived.Test.YthcpdiknejblnaaQdRowAid
import Derived.Test.YthcpdiknejblnaaQdTaO
set_option maxRecDepth 100000
set_option linter.unusedVariables false
set_option linter.unusedSimpArgs false
namespace Go.Proofs.Ythcpdiknejblnaa.LawTallyMerges
open Go.ChangeShapes Go.WideShapes Go.ChangeAt Go.RowKit YthcpdiknejblnaaW.PrintWords Rf Ra
open Go.ChangeMaps (open_string shut_string)
theorem own:ownKnob Try.prog.godebug=none:=Z6
theorem laidOut:laidOutB Try.prog=true:=Z6
theorem lifted (os:Os) (started:os.Started) (H:Type) (enc:TypeId × Value->H) :
  ReturnsInHanded {} Try.checked os 4 .any (Rows.tallyMergesSpec.pre6 enc Try.prog Try.f4 Rows.tallyMergesRow.domain false) (Rows.tallyMergesSpec.post enc Try.prog Try.f4 false true false false):=by
 refine returnsInHanded_of_change (C:=Try.checked) own started (Z6) Try.func4
  (ChangeSpec.witness6 (enc:=enc) (C:=Try.checked) false ⟨#[],#[.slice none 0 0,.slice none 0 0,.int .i64 0,.int .i64 0],[]⟩ 8 (Z6) (Z6) (Z6) (Z6)) ?_
 intro W base args ds gs before hval0 hW hcnd _
 have hval:∀ (j:Nat) t v,Try.f4.params[j]?=some t->args[j]?=some v->Value.okWide Try.prog W .any base t v:=hval0
 have hW':=hW
 obtain⟨p,q,hA0,hV,rfl,hfz,hnd⟩:=hW
 have hA:DataW.TrodAll enc Try.prog W 0 (fun _=>true) true Try.f4.params.toList args.toList ds p:=hA0
 rw[Try.params4]at hA hval
 obtain⟨v0,vs0,d0,ds0,p0,q0,hargs,rfl,rfl,h0,r0⟩:=trodAll_cons hA
 obtain⟨v1,vs1,d1,ds1,p1,q1,rfl,rfl,rfl,h1,r1⟩:=trodAll_cons r0
 obtain⟨v2,vs2,d2,ds2,p2,q2,rfl,rfl,rfl,h2,r2⟩:=trodAll_cons r1
 obtain⟨v3,vs3,d3,ds3,p3,q3,rfl,rfl,rfl,h3,r3⟩:=trodAll_cons r2
 obtain⟨rfl,rfl,rfl⟩:=trodAll_nil r3
 obtain rfl:args=#[v0,v1,v2,v3]:=by cases args;simp_all
 obtain⟨rfl,rfl⟩:=trodVars_none hV
 obtain⟨a0,len0,c0,rfl⟩:=okWide_slice Try.underlying22 (hval 0 22 v0 rfl rfl)
 have k0:=h0
 have lt0:∀ x∈p0,x.block<W.heap.size:=by obtain⟨m,hm⟩:=k0;exact DataW.trod_lt m _ _ _ hm
 obtain⟨z0,u0,hl0,hq0⟩:∃ zs:List (List Int),(Kd.slice 37 (Kd.slice 3 (Kd.int .i64))).K W zs [.slice a0 len0 c0]/\zs.length≤9223372036854775807/\∀ x∈zs,(fun xs:List Int=>xs.length≤9223372036854775807/\∀ x∈xs,QInt .i64 x) x:=by
  obtain⟨fuel,hf⟩:=h0
  exact opens_slice Try.underlying22 (Z6) (opens_slice Try.underlying37 (Z6) (opens_int Try.underlying3)) hf
 obtain⟨A0,C0,e0,hc0,hr0⟩:=u0
 injection e0 with e0 _
 injection e0 with e0a e0b e0c
 subst e0a;subst e0b;subst e0c
 obtain⟨a1,len1,c1,rfl⟩:=okWide_slice Try.underlying22 (hval 1 22 v1 rfl rfl)
 have k1:=h1
 have lt1:∀ x∈p1,x.block<W.heap.size:=by obtain⟨m,hm⟩:=k1;exact DataW.trod_lt m _ _ _ hm
 obtain⟨z1,u1,hl1,hq1⟩:∃ zs:List (List Int),(Kd.slice 37 (Kd.slice 3 (Kd.int .i64))).K W zs [.slice a1 len1 c1]/\zs.length≤9223372036854775807/\∀ x∈zs,(fun xs:List Int=>xs.length≤9223372036854775807/\∀ x∈xs,QInt .i64 x) x:=by
  obtain⟨fuel,hf⟩:=h1
  exact opens_slice Try.underlying22 (Z6) (opens_slice Try.underlying37 (Z6) (opens_int Try.underlying3)) hf
 obtain⟨A1,C1,e1,hc1,hr1⟩:=u1
 injection e1 with e1 _
 injection e1 with e1a e1b e1c
 subst e1a;subst e1b;subst e1c
 obtain⟨a2,rfl,rfl,rfl,w2⟩:=open_int Try.underlying3 (hval 2 3 v2 rfl rfl) h2
 obtain⟨a3,rfl,rfl,rfl,w3⟩:=open_int Try.underlying3 (hval 3 3 v3 rfl rfl) h3
 clear hA0 hval0
 refine(Ta.tallyMerges_any _ _ hr0 hc0 hl0 hr1 hc1 hl1).mono fun e W' ⟨he,bel⟩=>?_
 subst he
 exact⟨_,rfl,_,_,_,[],_,[],hW',trodAll_mk1 (shut_bool Try.underlying4 _),(trodAll_cons_mk (Below.trod laidOut (Z6) (of_decide_eq_true (Z6)) k0 bel lt0) (trodAll_cons_mk (Below.trod laidOut (Z6) (of_decide_eq_true (Z6)) k1 bel lt1) (trodAll_cons_mk (shut_int Try.underlying3 w2) (trodAll_cons_mk (shut_int Try.underlying3 w3) trodAll_mk0)))),rfl,bel.frame _,fun h=>by cases h⟩
theorem over:Rows.tallyMergesRow.holds Try.pinned (OpenSpec.ofChange Rows.tallyMergesSpec) :=
 OpenClaim.holds_of_wide 4 Try.f4 rfl rfl rfl rfl rfl rfl rfl ⟨rfl,rfl,rfl,rfl,rfl⟩ rfl rfl rfl rfl rfl (Z6) Try.func4 (Z6)
  (of_decide_eq_true (Z6)) (by unfold Func.isWrapper;first|(rw[if_pos (by decide +kernel)];kernel_rfl)|(rw[if_neg (by decide +kernel)];exact⟨rfl,rfl⟩))
  (fun os started H enc _=>lifted os started H enc)
end Go.Proofs.Ythcpdiknejblnaa.LawTallyMerges
namespace Go.Proofs.Ythcpdiknejblnaa
theorem tallyMerges_holds:Rows.TallyMergesSaid:=LawTallyMerges.over
#print axioms tallyMerges_holds
end Go.Proofs.Ythcpdiknejblnaa
