import Derived.Test.YtkffhgiiejbnaaaGreatQDecC
set_option maxRecDepth 100000
set_option maxHeartbeats 400000
set_option linter.unusedVariables false
set_option linter.unusedSimpArgs false
namespace Go.Proofs.YtkffhgiiejbnaaaGreat.Dc
open Go.Shelf Go.RowKit YtkffhgiiejbnaaaGreatW.PrintWords YtkffhgiiejbnaaaGreatW.PrintLast YtkffhgiiejbnaaaGreatW.PrintMore Rf Aid Mp Hp Tk Vc
def s0:Sp:=⟨[],[],[],[]⟩
theorem s0_ok:VOk s0:=⟨⟨Z31,Z31,Z31,Z31,(fun _ h=>nomatch h),(fun _ h=>nomatch h),(fun _ h=>nomatch h),(fun _ h=>nomatch h)⟩,rfl,rfl,(fun _ h=>nomatch h)⟩
theorem s0_at (w:World):SpAt w none none none none s0:=⟨⟨rfl,Z31,fun h=>absurd h (Z31)⟩,⟨rfl,Z31,fun h=>absurd h (Z31)⟩,⟨rfl,Z31,fun h=>absurd h (Z31)⟩,⟨rfl,Z31,fun h=>absurd h (Z31)⟩⟩
theorem it_c3:itF s0 [195] 0 []=([195],1,0):=Z15
theorem it_a9:itF s0 [169] 0 []=([169],1,0):=Z15
theorem tx_c3:textF s0 [195]=⟨#[195]⟩:=Z15
theorem tx_a9:textF s0 [169]=⟨#[169]⟩:=Z15
theorem x1:(⟨#[]⟩:ByteArray)++⟨#[195]⟩=⟨#[195]⟩:=Z15
theorem x2:(⟨#[195]⟩:ByteArray)++⟨#[169]⟩=⟨#[195,169]⟩:=Z15
theorem h1:heldF ⟨#[195]⟩=1:=Z15
theorem h2:heldF ⟨#[195,169]⟩=0:=Z15
theorem p1:(⟨#[195]⟩:ByteArray).extract 0 0=⟨#[]⟩:=Z15
theorem r1:(⟨#[195]⟩:ByteArray).extract 0 (⟨#[195]⟩:ByteArray).size=⟨#[195]⟩:=Z15
theorem p2:(⟨#[195,169]⟩:ByteArray).extract 0 2=⟨#[195,169]⟩:=Z15
theorem feed_c3 {w:World} {d v:Nat} (hD:DecAt w d v ⟨#[]⟩ 0) (hV:VocAt w v s0) (hvd:v<d) (A:Option Addr) (c:Nat) (hr:∀ m:Int,Kd.C (Kd.int .i64) (w.setCell ⟨v,13,none⟩ (.int .i64 m)) A 1 [195]) (base:Nat) (hb1:base≤v) (hb2:base≤d) (hb3:base≤w.heap.size) :
  Calls Tryz.prog 45 #[.pointer (some ⟨d,0,none⟩),.slice A 1 c] w fun e w'=>e=.returned (.tuple #[.string ⟨#[]⟩,.int .i64 1,.int .i64 0])/\DecAt w' d v ⟨#[195]⟩ 0/\VocAt w' v s0/\Below base w w':=by
 have h:=feed_ok hD hV hvd A c [195] hr (Z31) (by rw[it_c3]) 0 (by rw[tx_c3,x1,h1];rfl) (by rw[tx_c3,x1];decide) (Z31) base hb1 hb2 hb3
 rw[it_c3,tx_c3,x1,p1,r1]at h
 exact h
theorem feed_a9 {w:World} {d v:Nat} (hD:DecAt w d v ⟨#[195]⟩ 0) (hV:VocAt w v s0) (hvd:v<d) (A:Option Addr) (c:Nat) (hr:∀ m:Int,Kd.C (Kd.int .i64) (w.setCell ⟨v,13,none⟩ (.int .i64 m)) A 1 [169]) (base:Nat) (hb1:base≤v) (hb2:base≤d) (hb3:base≤w.heap.size) :
  Calls Tryz.prog 45 #[.pointer (some ⟨d,0,none⟩),.slice A 1 c] w fun e w'=>e=.returned (.tuple #[.string ⟨#[195,169]⟩,.int .i64 1,.int .i64 0])/\Below base w w':=by
 have h:=feed_ok hD hV hvd A c [169] hr (Z31) (by rw[it_a9]) 2 (by rw[tx_a9,x2,h2];rfl) (by rw[tx_a9,x2];decide) (Z31) base hb1 hb2 hb3
 rw[it_a9,tx_a9,x2,p2]at h
 exact h.mono fun e w' ⟨he,_,_,hb⟩=>⟨he,hb⟩
theorem row_one (W:World) (v:Nat) (m x:Int) (hv:v<W.heap.size):Kd.C (Kd.int .i64) ((W.alloc (.cells #[.int .i64 x] 3)).setCell ⟨v,13,none⟩ (.int .i64 m)) (some ⟨W.heap.size,0,none⟩) 1 [x]:=by
 refine⟨rfl,Z31,fun _=>⟨_,rfl,fun j p hj=>⟨[.int .i64 p],rfl,rfl,fun i u hu=>?_⟩⟩⟩
 have hi:i=0:=by
  cases i with
  | zero=>rfl
  | succ i=>simp at hu
 subst hi
 simp only[List.getElem?_cons_zero,Option.some.injEq]at hu
 subst hu
 have e1:(⟨W.heap.size,0,none⟩:Addr).add (j * 1+0)=⟨W.heap.size,j,none⟩:=Z63
 show (World.setCell _ _ _).cell? ((⟨W.heap.size,0,none⟩:Addr).add (j * 1+0))=_
 rw[e1,World.cell?_setCell_far _ _ _ _ (by intro h;simp at h;omega)]
 exact alloc_cell W [.int .i64 x] 3 j _ (by cases j with|zero=>simpa using hj|succ j=>simp at hj)
theorem awake_any (w:World):Calls Tryz.prog 30 #[] w fun e w'=>e=.returned (.bool true)/\Below w.heap.size w w':=by
 have hn:=new_ok 0 0 0 0 (s0_at w) s0_ok
 rw[show spV none none none none 0 0 0 0 s0=.agg #[.bool false,.slice none 0 0,.slice none 0 0,.slice none 0 0,.slice none 0 0,.slice none 0 0] from rfl]at hn
 have HN:=As.mk hn
 clear hn
 have hz:∀ w,(zeroValue 95).run Tryz.prog w=.ok (.agg #[.bool false,.slice none 0 0,.slice none 0 0,.slice none 0 0,.slice none 0 0,.slice none 0 0]) w:=fun w=>Z15
 go_enter Tryz.func30,Tryz.ntmps30
 go_wp2_with (first
  | (go_at_call 50;refine HN.out.mono ?_;rintro e w1 ⟨v,rfl,hv,hle,hb⟩;have HV1:=As.mk hv;have HL:=As.mk hle;have HB1:=As.mk hb;clear hv hle hb HN)
  | (go_at_call 44;refine(new_any v _).mono ?_;rintro e w2 ⟨d,rfl,hd,hD,hb⟩;have hvd:v<d:=(by rw[hd];exact HV1.out.lt);have HV2:=As.mk (HV1.out.below hb);have HD2:=As.mk hD;have HB2:=As.mk (bt_ HB1.out hb);have HD0:=As.mk (show w.heap.size≤d from Z126);clear hd hD hb HV1 HB1)
  | (go_at_call 45;refine(feed_c3 (HD2.out.below (below_alloc (Below.refl _ _) _)) (HV2.out.below (below_alloc (Below.refl _ _) _)) hvd _ _ (fun m=>row_one w2 v m 195 HV2.out.lt) w.heap.size HL.out HD0.out (below_alloc HB2.out _).size).mono ?_;rintro e w3 ⟨rfl,hd,hv,hb⟩;have HD3:=As.mk hd;have HV3:=As.mk hv;have HB3:=As.mk ((below_alloc HB2.out (.cells #[.int .i64 195] 3)).trans hb);clear hd hv hb HD2 HV2 HB2)
  | (go_at_call 45;refine(feed_a9 (HD3.out.below (below_alloc (Below.refl _ _) _)) (HV3.out.below (below_alloc (Below.refl _ _) _)) hvd _ _ (fun m=>row_one w3 v m 169 HV3.out.lt) w.heap.size HL.out HD0.out (below_alloc HB3.out _).size).mono ?_;rintro e w4 ⟨rfl,hb⟩;have HB4:=As.mk ((below_alloc HB3.out (.cells #[.int .i64 169] 3)).trans hb);clear hb HD3 HV3 HB3))
 go_ret
 exact⟨rfl,HB4.out⟩
end Go.Proofs.YtkffhgiiejbnaaaGreat.Dc
