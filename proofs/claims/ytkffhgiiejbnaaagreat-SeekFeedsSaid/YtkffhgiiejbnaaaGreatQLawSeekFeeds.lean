/- By any vocabulary any pattern in any tokens,fed in any portions,some of which can't be taken,is told as by definition: for every input,without a condition. -/
import Derived.Test.YtkffhgiiejbnaaaGreatRows
import Derived.Test.YtkffhgiiejbnaaaGreatQRowAid
import Derived.Test.YtkffhgiiejbnaaaGreatQRowCase
import Derived.Test.YtkffhgiiejbnaaaGreatQSkW
set_option maxRecDepth 100000
set_option linter.unusedVariables false
set_option linter.unusedSimpArgs false
namespace Go.Proofs.YtkffhgiiejbnaaaGreat.LawSeekFeeds
open Go.ChangeShapes Go.WideShapes Go.ChangeAt Go.RowKit YtkffhgiiejbnaaaGreatW.PrintWords Rf Ra
open Go.ChangeMaps (open_string shut_string)
theorem own:ownKnob Tryz.prog.godebug=none:=Z15
theorem laidOut:laidOutB Tryz.prog=true:=Z15
theorem lifted (os:Os) (started:os.Started) (H:Type) (enc:TypeId × Value->H) :
  ReturnsInHanded {} Tryz.checked os 9 .any (Rows.seekFeedsSpec.pre6 enc Tryz.prog Tryz.f9 Rows.seekFeedsRow.domain false) (Rows.seekFeedsSpec.post enc Tryz.prog Tryz.f9 false true false false):=by
 refine returnsInHanded_of_change (C:=Tryz.checked) own started (Z15) Tryz.func9
  (ChangeSpec.witness6 (enc:=enc) (C:=Tryz.checked) false ⟨#[],#[.agg #[.slice none 0 0,.slice none 0 0,.slice none 0 0,.slice none 0 0],.slice none 0 0,.slice none 0 0],[]⟩ 8 (Z15) (Z15) (Z15) (Z15)) ?_
 intro W base args ds gs before hval0 hW hcnd _
 have hval:∀ (j:Nat) t v,Tryz.f9.params[j]?=some t->args[j]?=some v->Value.okWide Tryz.prog W .any base t v:=hval0
 have hW':=hW
 obtain⟨p,q,hA0,hV,rfl,hfz,hnd⟩:=hW
 have hA:DataW.TrodAll enc Tryz.prog W 0 (fun _=>true) true Tryz.f9.params.toList args.toList ds p:=hA0
 rw[Tryz.params9]at hA hval
 obtain⟨v0,vs0,d0,ds0,p0,q0,hargs,rfl,rfl,h0,r0⟩:=trodAll_cons hA
 obtain⟨v1,vs1,d1,ds1,p1,q1,rfl,rfl,rfl,h1,r1⟩:=trodAll_cons r0
 obtain⟨v2,vs2,d2,ds2,p2,q2,rfl,rfl,rfl,h2,r2⟩:=trodAll_cons r1
 obtain⟨rfl,rfl,rfl⟩:=trodAll_nil r2
 obtain rfl:args=#[v0,v1,v2]:=by cases args;simp_all
 obtain⟨rfl,rfl⟩:=trodVars_none hV
 have k0:=h0
 have lt0:∀ x∈p0,x.block<W.heap.size:=by obtain⟨m,hm⟩:=k0;exact DataW.trod_lt m _ _ _ hm
 obtain⟨_,_,_,_,_,_,_,_,_,_,_,_,rfl,y0⟩:=open_case (hval 0 27 v0 rfl rfl) h0
 obtain⟨a1,len1,c1,rfl⟩:=okWide_slice Tryz.underlying41 (hval 1 41 v1 rfl rfl)
 have k1:=h1
 have lt1:∀ x∈p1,x.block<W.heap.size:=by obtain⟨m,hm⟩:=k1;exact DataW.trod_lt m _ _ _ hm
 obtain⟨z1,u1,hl1,hq1⟩:∃ zs:List (Int),(Kd.slice 3 (Kd.int .i64)).K W zs [.slice a1 len1 c1]/\zs.length≤9223372036854775807/\∀ x∈zs,QInt .i64 x:=by
  obtain⟨fuel,hf⟩:=h1
  exact opens_slice Tryz.underlying41 (Z15) (opens_int Tryz.underlying3) hf
 obtain⟨A1,C1,e1,hc1,hr1⟩:=u1
 injection e1 with e1 _
 injection e1 with e1a e1b e1c
 subst e1a;subst e1b;subst e1c
 obtain⟨a2,len2,c2,rfl⟩:=okWide_slice Tryz.underlying43 (hval 2 43 v2 rfl rfl)
 have k2:=h2
 have lt2:∀ x∈p2,x.block<W.heap.size:=by obtain⟨m,hm⟩:=k2;exact DataW.trod_lt m _ _ _ hm
 obtain⟨z2,u2,hl2,hq2⟩:∃ zs:List (List Int),(Kd.slice 41 (Kd.slice 3 (Kd.int .i64))).K W zs [.slice a2 len2 c2]/\zs.length≤9223372036854775807/\∀ x∈zs,(fun xs:List Int=>xs.length≤9223372036854775807/\∀ x∈xs,QInt .i64 x) x:=by
  obtain⟨fuel,hf⟩:=h2
  exact opens_slice Tryz.underlying43 (Z15) (opens_slice Tryz.underlying41 (Z15) (opens_int Tryz.underlying3)) hf
 obtain⟨A2,C2,e2,hc2,hr2⟩:=u2
 injection e2 with e2 _
 injection e2 with e2a e2b e2c
 subst e2a;subst e2b;subst e2c
 clear hA0 hval0
 refine(Rt.seekFeeds_any y0 _ _ _ hr1 hc1 _ _ _ hr2).mono fun e W' ⟨he,bel⟩=>?_
 subst he
 exact⟨_,rfl,_,_,_,[],_,[],hW',trodAll_mk1 (shut_bool Tryz.underlying4 _),(trodAll_cons_mk (Below.trod laidOut (Z15) (of_decide_eq_true (Z15)) k0 bel lt0) (trodAll_cons_mk (Below.trod laidOut (Z15) (of_decide_eq_true (Z15)) k1 bel lt1) (trodAll_cons_mk (Below.trod laidOut (Z15) (of_decide_eq_true (Z15)) k2 bel lt2) trodAll_mk0))),rfl,bel.frame _,fun h=>by cases h⟩
theorem over:Rows.seekFeedsRow.holds Tryz.pinned (OpenSpec.ofChange Rows.seekFeedsSpec) :=
 OpenClaim.holds_of_wide 9 Tryz.f9 rfl rfl rfl rfl rfl rfl rfl ⟨rfl,rfl,rfl,rfl,rfl⟩ rfl rfl rfl rfl rfl (Z15) Tryz.func9 (Z15)
  (of_decide_eq_true (Z15)) (by unfold Func.isWrapper;first|(rw[if_pos (by decide +kernel)];kernel_rfl)|(rw[if_neg (by decide +kernel)];exact⟨rfl,rfl⟩))
  (fun os started H enc _=>lifted os started H enc)
end Go.Proofs.YtkffhgiiejbnaaaGreat.LawSeekFeeds
namespace Go.Proofs.YtkffhgiiejbnaaaGreat
theorem seekFeeds_holds:Rows.SeekFeedsSaid:=LawSeekFeeds.over
#print axioms seekFeeds_holds
end Go.Proofs.YtkffhgiiejbnaaaGreat
