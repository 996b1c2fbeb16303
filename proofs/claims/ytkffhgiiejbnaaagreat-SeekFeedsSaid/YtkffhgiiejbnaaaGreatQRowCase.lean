import Derived.Test.YtkffhgiiejbnaaaGreatQRowAid
import Derived.Test.YtkffhgiiejbnaaaGreatQOf
set_option maxRecDepth 100000
set_option linter.unusedVariables false
set_option linter.unusedSimpArgs false
namespace Go.Proofs.YtkffhgiiejbnaaaGreat.Ra
open Go.RowKit Go.Joins Go.Deep Go.ChangeShapes Go.WideShapes YtkffhgiiejbnaaaGreatW.PrintWords Rf
theorem opens_cl:Opens Tryz.prog k165 165 (fun _=>True):=by
 intro H enc w base held fuel cs x h
 obtain⟨y0,y1,y2,n,_,hl,h0,h1,h2⟩:=trod_struct3 Tryz.underlying165 h
 have hl2:cs.length=3:=hl
 obtain⟨a,e0,q0⟩:=opens_int Tryz.underlying3 h0
 obtain⟨b,e1,q1⟩:=opens_int Tryz.underlying3 h1
 obtain⟨c,e2,q2⟩:=opens_int Tryz.underlying3 h2
 match cs,hl2 with
 | [c0,c1,c2],_ =>
  have e0':([c0]:List Value)=[.int .i64 a]:=e0
  have e1':([c1]:List Value)=[.int .i64 b]:=e1
  have e2':([c2]:List Value)=[.int .i64 c]:=e2
  injection e0' with e0' _
  injection e1' with e1' _
  injection e2' with e2' _
  subst e0';subst e1';subst e2'
  exact⟨⟨a,b,c⟩,k165_mk _ _,trivial⟩
theorem opens_jo:Opens Tryz.prog k108 108 (fun _=>True):=by
 intro H enc w base held fuel cs x h
 obtain⟨y0,y1,n,_,hl,h0,h1⟩:=trod_struct2 Tryz.underlying108 h
 have hl2:cs.length=2:=hl
 obtain⟨a,e0,q0⟩:=opens_int Tryz.underlying3 h0
 obtain⟨b,e1,q1⟩:=opens_int Tryz.underlying3 h1
 match cs,hl2 with
 | [c0,c1],_ =>
  have e0':([c0]:List Value)=[.int .i64 a]:=e0
  have e1':([c1]:List Value)=[.int .i64 b]:=e1
  injection e0' with e0' _
  injection e1' with e1' _
  subst e0';subst e1'
  exact⟨⟨a,b⟩,k108_mk _ _,trivial⟩
theorem u16_range {a:Int} (h:QInt .u16 a):0≤a/\a≤65535:=by
 unfold QInt at h
 have h':(Lit.int .u16 a).wf=true:=h
 simp[Lit.wf]at h'
 have e1:IntKind.u16.min=0:=rfl
 have e2:IntKind.u16.max=65535:=rfl
 omega
theorem open_case {H:Type} {enc:TypeId × Value->H} {W:World} {r:Reach} {b0 base:Nat} {held:Bool} {v:Value} {d:DataW H} {p:List MemPlace} (hv:Value.okWide Tryz.prog W r b0 27 v) (h:DataW.Trod enc Tryz.prog W base (fun _=>true) held 27 v d p) :
  ∃ A0 A1 A2 A3 c0 c1 c2 c3 L C J X,v=Rt.caseV A0 A1 A2 A3 c0 c1 c2 c3 L C J X/\Rt.CaseAt W A0 A1 A2 A3 c0 c1 c2 c3 L C J X:=by
 obtain⟨v0,v1,v2,v3,y0,y1,y2,y3,n,rfl,_,_,t0,t1,t2,t3⟩:=open_agg4 Tryz.underlying27 (Z15) (Z15) hv h
 obtain⟨L,⟨A0,c0,e0,k0,r0⟩,_,q0⟩:=opens_slice Tryz.underlying22 (Z15) (opens_int Tryz.underlying212) t0
 obtain⟨C,⟨A1,c1,e1,k1,r1⟩,_,q1⟩:=opens_slice Tryz.underlying23 (Z15) opens_cl t1
 obtain⟨J,⟨A2,c2,e2,k2,r2⟩,_,q2⟩:=opens_slice Tryz.underlying24 (Z15) opens_jo t2
 obtain⟨X,⟨A3,c3,e3,k3,r3⟩,_,q3⟩:=opens_slice Tryz.underlying25 (Z15) opens_sp t3
 injection e0 with e0 _
 injection e1 with e1 _
 injection e2 with e2 _
 injection e3 with e3 _
 subst e0;subst e1;subst e2;subst e3
 exact⟨A0,A1,A2,A3,c0,c1,c2,c3,L,C,J,X,rfl,r0,fun x hx=>u16_range (q0 x hx),r1,r2,r3,k0,k1,k2,k3⟩
end Go.Proofs.YtkffhgiiejbnaaaGreat.Ra
