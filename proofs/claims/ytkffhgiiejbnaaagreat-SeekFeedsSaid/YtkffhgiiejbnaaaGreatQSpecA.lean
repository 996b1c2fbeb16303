import Derived.Test.YtkffhgiiejbnaaaGreatQFun
import Derived.Test.YtkffhgiiejbnaaaGreatQBndA
import Derived.Test.YtkffhgiiejbnaaaGreatQ01
set_option maxRecDepth 100000
set_option maxHeartbeats 400000
set_option linter.unusedVariables false
set_option linter.unusedSimpArgs false
namespace Go.Proofs.YtkffhgiiejbnaaaGreat.Vc
open Go.Shelf Go.RowKit YtkffhgiiejbnaaaGreatW.PrintWords YtkffhgiiejbnaaaGreatW.PrintLast YtkffhgiiejbnaaaGreatW.PrintMore Rf Aid Mp Hp Go.Proofs.YtkffhgiiejbnaaaGreat.Fn Bn
structure Sp where
 M:List S91
 X:List S93
 C:List S165
 J:List S108
structure SpOk (s:Sp):Prop where
 nM:s.M.length≤744
 nX:s.X.length≤32
 nC:s.C.length≤64
 nJ:s.J.length≤64
 hM:∀ x∈s.M,(0≤x.f0/\x.f0≤999)/\(0≤x.f1/\x.f1≤999)
 hX:∀ x∈s.X,(0≤x.f0/\x.f0≤1073741824)/\(1≤x.f1.size/\x.f1.size≤64)
 hC:∀ x∈s.C,okC x
 hJ:∀ x∈s.J,okJ x
def spV (A1 A3 A4 A5:Option Addr) (c1 c3 c4 c5:Nat) (s:Sp):Value:=.agg #[.bool false,.slice A1 s.M.length c1,.slice none 0 0,.slice A3 s.X.length c3,.slice A4 s.C.length c4,.slice A5 s.J.length c5]
structure SpAt (w:World) (A1 A3 A4 A5:Option Addr) (s:Sp):Prop where
 M:Kd.C k91 w A1 s.M.length s.M
 X:Kd.C k93 w A3 s.X.length s.X
 C:Kd.C k165 w A4 s.C.length s.C
 J:Kd.C k108 w A5 s.J.length s.J
theorem SpAt.below {w w':World} {A1 A3 A4 A5:Option Addr} {s:Sp} (h:SpAt w A1 A3 A4 A5 s) (hb:Below w.heap.size w w'):SpAt w' A1 A3 A4 A5 s:=⟨Kd.C_below h.M hb,Kd.C_below h.X hb,Kd.C_below h.C hb,Kd.C_below h.J hb⟩
theorem merge_ok {x:S91} (h:(0≤x.f0/\x.f0≤999)/\(0≤x.f1/\x.f1≤999)):spec_merge.f x.f0 x.f1=some true:=by
 obtain⟨⟨h1,h2⟩,h3,h4⟩:=h
 simp[spec_merge.f,spec_within.f,h1,h2,h3,h4]
theorem special_ok {x:S93} (h:(0≤x.f0/\x.f0≤1073741824)/\(1≤x.f1.size/\x.f1.size≤64)):spec_special.f x.f0 x.f1=some true:=by
 obtain⟨⟨h1,h2⟩,h3,h4⟩:=h
 have h5:(1:Int)≤x.f1.size:=Z1
 have h6:(x.f1.size:Int)≤64:=Z1
 simp[spec_special.f,spec_within.f,h1,h2,h3,h4,h5,h6]
theorem class_ok' {x:S165} (h:okC x):spec_class.f x.f0 x.f1 x.f2=some true:=by
 obtain⟨h1,h2,h3,h4,h5⟩:=h
 have h6:x.f1≤255:=Z1
 have h7:x.f2≤15:=Z1
 simp[spec_class.f,spec_within.f,h1,h2,h3,h4,h5,h6,h7]
theorem join_ok {x:S108} (h:okJ x):spec_join.f x.f0 x.f1=some true:=by
 obtain⟨⟨h1,h2⟩,h3,h4⟩:=h
 have h6:x.f0≤15:=Z1
 have h7:x.f1≤15:=Z1
 simp[spec_join.f,spec_within.f,h1,h3,h6,h7]
theorem idxT (w:World) (f:Value):Calls Tryz.prog 166 #[.slice none 0 0,f] w fun e w'=>e=.returned (.int .i64 (-1))/\w=w':=by
 go_enter Tryz.func166,Tryz.ntmps166
 go_wp2
 go_loopg [5,8] 0 (fun k _ v w'=>v=.int .i64 0/\As (w=w'))
 case atStart=>exact⟨rfl,⟨rfl⟩⟩
 case round =>
  obtain⟨rfl,HW⟩:=hrel
  have hW:=HW.out
  subst hW
  go_wp2
  go_ret
  exact⟨rfl,rfl⟩
theorem conT (w:World) (f:Value):Calls Tryz.prog 142 #[.slice none 0 0,f] w fun e w'=>e=.returned (.bool false)/\w=w':=by
 go_enter Tryz.func142,Tryz.ntmps142
 go_wp2_with (go_at_call 166;refine(idxT _ _).mono ?_;rintro e w1 ⟨rfl,rfl⟩)
 go_ret
 exact⟨rfl,rfl⟩
theorem allT (w:World) (m:Nat):Calls Tryz.prog 109 #[.slice none 0 0,.int .i64 744,.func (.func m) #[] #[]] w fun e w'=>e=.returned (.bool true)/\Below w.heap.size w w':=by
 go_enter Tryz.func109,Tryz.ntmps109
 go_wp2_with (go_at_call 142;refine(conT _ _).mono ?_;rintro e w1 ⟨rfl,rfl⟩)
 go_ret
 exact⟨rfl,by first|exact below_alloc (Below.refl _ _) _|exact Below.refl _ _⟩
theorem right_ok {A1 A3 A4 A5:Option Addr} (c1 c3 c4 c5:Nat) {s:Sp} {w:World} (hs:SpAt w A1 A3 A4 A5 s) (h:SpOk s) :
  Calls Tryz.prog 85 #[spV A1 A3 A4 A5 c1 c3 c4 c5 s] w fun e w'=>e=.returned (.bool true)/\Below w.heap.size w w':=by
 unfold spV
 have HB0:=As.mk (below_alloc (Below.refl w.heap.size w) (.cells #[.bool false,.slice A1 s.M.length c1,.slice none 0 0,.slice A3 s.X.length c3,.slice A4 s.C.length c4,.slice A5 s.J.length c5] 95))
 have hh:=(Go.MapKept.heap_alloc w (.cells #[.bool false,.slice A1 s.M.length c1,.slice none 0 0,.slice A3 s.X.length c3,.slice A4 s.C.length c4,.slice A5 s.J.length c5] 95)).1
 have hb0:=blk_lt hh
 have d2:(w.alloc (.cells #[.bool false,.slice A1 s.M.length c1,.slice none 0 0,.slice A3 s.X.length c3,.slice A4 s.C.length c4,.slice A5 s.J.length c5] 95)).cell? ⟨w.heap.size,2,none⟩=some (.slice none 0 0):=Z69
 have d3:(w.alloc (.cells #[.bool false,.slice A1 s.M.length c1,.slice none 0 0,.slice A3 s.X.length c3,.slice A4 s.C.length c4,.slice A5 s.J.length c5] 95)).cell? ⟨w.heap.size,3,none⟩=some (.slice A3 s.X.length c3):=Z69
 have d4:(w.alloc (.cells #[.bool false,.slice A1 s.M.length c1,.slice none 0 0,.slice A3 s.X.length c3,.slice A4 s.C.length c4,.slice A5 s.J.length c5] 95)).cell? ⟨w.heap.size,4,none⟩=some (.slice A4 s.C.length c4):=Z69
 have d5:(w.alloc (.cells #[.bool false,.slice A1 s.M.length c1,.slice none 0 0,.slice A3 s.X.length c3,.slice A4 s.C.length c4,.slice A5 s.J.length c5] 95)).cell? ⟨w.heap.size,5,none⟩=some (.slice A5 s.J.length c5):=Z69
 have HS:=As.mk hs
 have eM:=As.mk (enters_of (P:=Tryz.prog) Tryz.func108 (Z15) rfl)
 have eX:=As.mk (enters_of (P:=Tryz.prog) Tryz.func112 (Z15) rfl)
 have eC:=As.mk (enters_of (P:=Tryz.prog) Tryz.func114 (Z15) rfl)
 have eJ:=As.mk (enters_of (P:=Tryz.prog) Tryz.func116 (Z15) rfl)
 have H:=As.mk h
 clear h hs hh
 go_enter Tryz.func85,Tryz.ntmps85
 go_wp2_with (first
  | (go_at_call 107;refine(allM A1 c1 s.M 744 108 eM.out _ (Kd.C_below HS.out.M HB0.out) H.out.nM (Z1) (fun x hx W'=>spec_merge.calls _ _ _ W' (merge_ok (H.out.hM x hx)))).mono ?_;rintro e w1 ⟨rfl,hb⟩;replace d2:=pw_cell_below hb d2;replace d3:=pw_cell_below hb d3;replace d4:=pw_cell_below hb d4;replace d5:=pw_cell_below hb d5;have HB1:=As.mk (bt_ HB0.out hb);clear HB0 hb)
  | (go_at_call 109;refine(allT _ _).mono ?_;rintro e w2 ⟨rfl,hb⟩;replace d3:=pw_cell_below hb d3;replace d4:=pw_cell_below hb d4;replace d5:=pw_cell_below hb d5;have HB2:=As.mk (bt_ HB1.out hb);clear HB1 hb d2)
  | (go_at_call 111;refine(allS A3 c3 s.X 32 112 eX.out _ (Kd.C_below HS.out.X HB2.out) H.out.nX (Z1) (fun x hx W'=>spec_special.calls _ _ _ W' (special_ok (H.out.hX x hx)))).mono ?_;rintro e w3 ⟨rfl,hb⟩;replace d4:=pw_cell_below hb d4;replace d5:=pw_cell_below hb d5;have HB3:=As.mk (bt_ HB2.out hb);clear HB2 hb d3)
  | (go_at_call 113;refine(allC A4 c4 s.C 64 114 eC.out _ (Kd.C_below HS.out.C HB3.out) H.out.nC (Z1) (fun x hx W'=>spec_class.calls _ _ _ _ W' (class_ok' (H.out.hC x hx)))).mono ?_;rintro e w4 ⟨rfl,hb⟩;replace d5:=pw_cell_below hb d5;have HB4:=As.mk (bt_ HB3.out hb);clear HB3 hb d4)
  | (go_at_call 115;refine(allJ A5 c5 s.J 64 116 eJ.out _ (Kd.C_below HS.out.J HB4.out) H.out.nJ (Z1) (fun x hx W'=>spec_join.calls _ _ _ W' (join_ok (H.out.hJ x hx)))).mono ?_;rintro e w5 ⟨rfl,hb⟩;have HB5:=As.mk (bt_ HB4.out hb);clear HB4 hb d5))
 go_ret
 exact⟨rfl,HB5.out⟩
end Go.Proofs.YtkffhgiiejbnaaaGreat.Vc
