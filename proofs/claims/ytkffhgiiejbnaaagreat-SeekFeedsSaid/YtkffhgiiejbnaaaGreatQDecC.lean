import Derived.Test.YtkffhgiiejbnaaaGreatQDecA
import Derived.Test.YtkffhgiiejbnaaaGreatQDecB
set_option maxRecDepth 100000
set_option maxHeartbeats 400000
set_option linter.unusedVariables false
set_option linter.unusedSimpArgs false
namespace Go.Proofs.YtkffhgiiejbnaaaGreat.Dc
open Go.Shelf Go.RowKit YtkffhgiiejbnaaaGreatW.PrintWords YtkffhgiiejbnaaaGreatW.PrintLast YtkffhgiiejbnaaaGreatW.PrintMore Rf Aid Mp Hp Tk Vc
theorem slice_to (s:ByteArray) (q:Nat) (h:q≤s.size) (W:World):(Instr.slice 9 (.string s) none (some (.int .i64 (q:Int))) none).run Tryz.prog W=.ok (.string (s.extract 0 q)) W:=by
 have h1:(q:Int)≤(s.size:Int):=Z1
 simp[Instr.slice,run_underlying Tryz.underlying9,go_sem,Result.andThen,h1,h]
theorem pass_any {w:World} {d:Nat} {hd t:ByteArray} (hc:w.cell? ⟨d,0,none⟩=some (.string hd)) (hz:w.frozen? ⟨d,0,none⟩=false) (q:Nat) (hq:(hd++t).size=q+heldF (hd++t)) (hb:(hd++t).size≤1000000000) :
  Calls Tryz.prog 82 #[.pointer (some ⟨d,0,none⟩),.string t] w fun e w'=>e=.returned (.string ((hd++t).extract 0 q))/\∃ W,Below w.heap.size w W/\w'=W.setCell ⟨d,0,none⟩ (.string ((hd++t).extract q (hd++t).size)):=by
 have hdl:d<w.heap.size:=World.block_lt_of_cell? w _ hc
 obtain⟨x,hx⟩:∃ x,x=hd++t:=⟨_,rfl⟩
 rw[←hx]at hq hb ⊢
 have HC:=As.mk (fun W=>held_any x hb W)
 have hs1:=slice_str x q (Z1)
 have hs2:=slice_to x q (Z1)
 have hqb:(q:Int)≤1000000000:=Z1
 generalize x.extract q x.size=T1 at *
 generalize x.extract 0 q=T0 at *
 generalize heldF x=n at *
 have hxx:hd++t=x:=hx.symm
 have hbig:¬ 9223372036854775807<hd.size+t.size:=by rw[hx,ByteArray.size_append]at hb;omega
 have HX:=As.mk hx
 clear hx hb
 go_enter Tryz.func82,Tryz.ntmps82
 go_wp2_with (go_at_call 31;refine(HC.out _).mono ?_;rintro e w1 ⟨rfl,hb1⟩;have HB1:=As.mk hb1;have hc1:=pw_cell_below hb1 hc;have hz1:w1.frozen? ⟨d,0,none⟩=false:=(by have:=hb1.block d hdl;simp only[World.frozen?,this]at hz ⊢;exact hz))
 go_ret
 exact⟨rfl,w1,HB1.out,rfl⟩
structure DecAt (w:World) (d v:Nat) (hd:ByteArray) (told:Nat):Prop where
 blk:w.heap[d]?=some (.cells #[.string hd,.pointer (some ⟨v,0,none⟩),.bool false,.int .i64 (told:Int)] 155 (0,0))
theorem DecAt.lt {w:World} {d v:Nat} {hd:ByteArray} {told:Nat} (h:DecAt w d v hd told):d<w.heap.size:=blk_lt h.blk
theorem DecAt.below {w w':World} {d v:Nat} {hd:ByteArray} {told:Nat} (h:DecAt w d v hd told) (hb:Below w.heap.size w w'):DecAt w' d v hd told:=⟨(hb.block _ h.lt).trans h.blk⟩
theorem DecAt.used {w w':World} {d v:Nat} {hd:ByteArray} {told:Nat} (h:DecAt w d v hd told) (hne:d≠v) (hu:Used w v w'):DecAt w' d v hd told:=by
 obtain⟨m,hm⟩:=hu
 exact⟨(hm.block _ h.lt).trans ((Below.heap_setCell w ⟨v,13,none⟩ _ d hne).trans h.blk)⟩
theorem Used.under {w w':World} {v base:Nat} (hu:Used w v w') (h1:base≤v) (h2:base≤w.heap.size):Below base w w':=by
 obtain⟨m,hm⟩:=hu
 exact((Below.refl base w).setCell (p:=⟨v,13,none⟩) h1 _).trans (hm.mono h2)
theorem new_any (v:Nat) (w:World):Calls Tryz.prog 44 #[.pointer (some ⟨v,0,none⟩)] w fun e w'=>∃ d,e=.returned (.pointer (some ⟨d,0,none⟩))/\d=w.heap.size/\DecAt w' d v ⟨#[]⟩ 0/\Below w.heap.size w w':=by
 go_enter Tryz.func44,Tryz.ntmps44
 go_wp2
 go_ret
 exact⟨_,rfl,rfl,⟨(Go.MapKept.heap_alloc w _).1⟩,below_alloc (Below.refl _ _) _⟩
theorem voc_set {w:World} {v d:Nat} {s:Sp} (h:VocAt w v s) (hvd:v<d) (j:Nat) (u:Value):VocAt (w.setCell ⟨d,j,none⟩ u) v s:=by
 obtain⟨⟨cs,hc⟩,⟨n,hn⟩,w0,pt,pb,pm,h1,h2,h3,h4,h5,h6,h7,h8⟩:=h
 have far:∀ i x,w.cell? ⟨v,i,none⟩=some x->(w.setCell ⟨d,j,none⟩ u).cell? ⟨v,i,none⟩=some x:=fun i x hx=>by
  simp only[World.cell?]at hx ⊢
  rw[Below.heap_setCell w ⟨d,j,none⟩ u v (Nat.ne_of_lt hvd)]
  exact hx
 exact⟨⟨cs,(Below.heap_setCell w ⟨d,j,none⟩ u v (Nat.ne_of_lt hvd)).trans hc⟩,⟨n,far _ _ hn⟩,w0,pt,pb,pm,h1,h2.setCell (p:=⟨d,j,none⟩) (Nat.le_of_lt (Nat.lt_of_le_of_lt h1 hvd)) _,h3,h4,h5,far _ _ h6,far _ _ h7,far _ _ h8⟩
theorem feed_ok {w:World} {d v told:Nat} {hd:ByteArray} {s:Sp} (hD:DecAt w d v hd told) (hV:VocAt w v s) (hvd:v<d) (A:Option Addr) (c:Nat) (ids:List Int) (hr:∀ m:Int,Kd.C (Kd.int .i64) (w.setCell ⟨v,13,none⟩ (.int .i64 m)) A ids.length ids) (hl:ids.length≤4000) (hok:(itF s ids 0 []).2.2=0)
  (q:Nat) (hq:(hd++textF s ids).size=q+heldF (hd++textF s ids)) (hb:(hd++textF s ids).size≤1000000000) (ht:told≤1000000000) (base:Nat) (h1:base≤v) (h2:base≤d) (h3:base≤w.heap.size) :
  Calls Tryz.prog 45 #[.pointer (some ⟨d,0,none⟩),.slice A ids.length c] w fun e w'=>e=.returned (.tuple #[.string ((hd++textF s ids).extract 0 q),.int .i64 (itF s ids 0 []).2.1,.int .i64 0])/\DecAt w' d v ((hd++textF s ids).extract q (hd++textF s ids).size) (told+q)/\VocAt w' v s/\Below base w w':=by
 have hne:d≠v:=Nat.ne_of_gt hvd
 have HT:=As.mk (text_any hV A c ids hr hl)
 rw[hok]at HT
 have hqs:((hd++textF s ids).extract 0 q).size=q:=Z91
 have hqb:(q:Int)≤1000000000:=Z1
 have htb:(told:Int)≤1000000000:=Z1
 have HD:=As.mk hD
 have c1:=cell_of (i:=1) hD.blk rfl
 have c2:=cell_of (i:=2) hD.blk rfl
 have HB:=As.mk (And.intro h1 (And.intro h2 h3))
 generalize textF s ids=t at *
 have HP:=As.mk (fun(W:World) (h:DecAt W d v hd told)=>pass_any (t:=t) (cell_of (i:=0) h.blk rfl) (frozen_of h.blk 0) q hq hb)
 generalize (hd++t).extract 0 q=P at *
 generalize (hd++t).extract q (hd++t).size=R at *
 generalize (itF s ids 0 []).2.1=n at *
 clear hV hr hok hq hb hD h1 h2 h3
 go_enter Tryz.func45,Tryz.ntmps45
 go_wp2_with (first
  | (go_at_call 76;refine HT.out.mono ?_;rintro e w1 ⟨rfl,hv,hu⟩;have HD1:=As.mk (HD.out.used hne hu);have HV1:=As.mk hv;have HB1:=As.mk (Used.under hu HB.out.1 HB.out.2.2);clear hv hu c1 c2 HT)
  | (go_at_call 82;refine(HP.out _ HD1.out).mono ?_;rintro e w3 ⟨rfl,w2,hb2,rfl⟩;have HB2:=As.mk ((HB1.out.trans (hb2.mono (Nat.le_trans HB.out.2.2 HB1.out.size))).setCell (p:=⟨d,0,none⟩) HB.out.2.1 (.string R));have hD2:(w2.setCell ⟨d,0,none⟩ (.string R)).heap[d]?=some (.cells #[.string R,.pointer (some ⟨v,0,none⟩),.bool false,.int .i64 (told:Int)] 155 (0,0)):=blk_set ((hb2.block _ HD1.out.lt).trans HD1.out.blk) 0 _;have HV2:=As.mk (HV1.out.below hb2);have HD2:=As.mk hD2;have c3:=cell_of (i:=3) hD2 rfl;have z3:=blk_frozen hD2 3;clear hD2 hb2))
 go_ret3
 exact⟨rfl,⟨blk_set HD2.out 3 _⟩,voc_set (voc_set HV2.out hvd _ _) hvd _ _,HB2.out.setCell (p:=⟨d,3,none⟩) HB.out.2.1 _⟩
end Go.Proofs.YtkffhgiiejbnaaaGreat.Dc
