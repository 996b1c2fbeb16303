import Derived.Test.YtkffhgiiejbnaaaGreatQVocC
set_option maxHeartbeats 400000
set_option linter.unusedVariables false
set_option linter.unusedSimpArgs false
namespace Go.Proofs.YtkffhgiiejbnaaaGreat.Vc
open Go.Shelf Go.RowKit YtkffhgiiejbnaaaGreatW.PrintWords YtkffhgiiejbnaaaGreatW.PrintLast YtkffhgiiejbnaaaGreatW.PrintMore Rf Aid Mp Hp Go.Proofs.YtkffhgiiejbnaaaGreat.Fn Bn Tk
theorem VocO.below {lo:Nat} {w w':World} {v:Nat} {s:Sp} (h:VocO lo w v s) (hb:Below w.heap.size w w'):VocO lo w' v s:=by
 obtain⟨⟨cs,hc⟩,⟨n,hn⟩,h0,w0,pt,pb,pm,bm,pq,sv,bi,bt,h1,h2,h3,h4,h5,h6,h7,h8⟩:=h
 exact⟨⟨cs,(hb.block _ (blk_lt hc)).trans hc⟩,⟨n,pw_cell_below hb hn⟩,h0,w0,pt,pb,pm,bm,pq,sv,bi,bt,h1,h2.trans (hb.mono h2.size),h3,h4,h5,pw_cell_below hb h6,pw_cell_below hb h7,pw_cell_below hb h8⟩
theorem VocO.lt {lo:Nat} {w:World} {v:Nat} {s:Sp} (h:VocO lo w v s):v<w.heap.size:=Z85
theorem VocO.set {lo:Nat} {w:World} {v:Nat} {s:Sp} (h:VocO lo w v s) (m:Int):VocO lo (w.setCell ⟨v,13,none⟩ (.int .i64 m)) v s:=by
 obtain⟨⟨cs,hc⟩,⟨n,hn⟩,h0,w0,pt,pb,pm,bm,pq,sv,bi,bt,h1,h2,h3,h4,h5,h6,h7,h8⟩:=h
 exact⟨⟨_,blk_set hc 13 _⟩,⟨m,set_eq hn⟩,h0,w0,pt,pb,pm,bm,pq,sv,bi,bt,h1,h2.setCell (p:=⟨v,13,none⟩) h1 _,h3,h4,h5,by rw[set_ne _ _ _ _ _ (Z31)];exact h6,by rw[set_ne _ _ _ _ _ (Z31)];exact h7,by rw[set_ne _ _ _ _ _ (Z31)];exact h8⟩
theorem VocO.used {lo:Nat} {w w':World} {v:Nat} {s:Sp} (h:VocO lo w v s) (hu:Used w v w'):VocO lo w' v s:=by
 obtain⟨m,hm⟩:=hu
 exact VocO.below (VocO.set h m) (hm.mono (Z12))
theorem below_both {B:Nat} {w W:World} (h:Below B w W) (a:Addr) (u:Value):Below B (w.setCell a u) (W.setCell a u):=by
 refine⟨h.os,h.tape,h.output,by simpa[World.setCell] using h.size,fun i hi=>?_⟩
 have:=h.block i hi
 simp only[World.setCell,Array.getElem?_modify]
 rw[this]
theorem VocO.far {lo:Nat} {w:World} {v:Nat} {s:Sp} (h:VocO lo w v s) {a:Addr} (ha:a.block<lo) (u:Value):VocO lo (w.setCell a u) v s:=by
 obtain⟨⟨cs,hc⟩,⟨n,hn⟩,h0,w0,pt,pb,pm,bm,pq,sv,bi,bt,h1,h2,h3,h4,h5,h6,h7,h8⟩:=h
 have hv:v≠a.block:=Z1
 have far:∀ i x,w.cell? ⟨v,i,none⟩=some x->(w.setCell a u).cell? ⟨v,i,none⟩=some x:=fun i x hx=>by
  rw[World.cell?_setCell_far _ _ _ _ (Ne.symm hv)];exact hx
 have hB:BndAt (w0.setCell a u) pb (cls s.C) (joinB s.J):=by
  obtain⟨⟨cs,hc⟩,g1,g2⟩:=h4.2
  have hp:pb≠a.block:=by have:=h4.1;omega
  exact⟨⟨cs,blk_far hc hp u⟩,fun i hi=>by rw[World.cell?_setCell_far _ _ _ _ (Ne.symm hp)];exact g1 i hi,fun x y hx hy=>by rw[World.cell?_setCell_far _ _ _ _ (Ne.symm hp)];exact g2 x y hx hy⟩
 have hb:=below_both h2 a u
 refine⟨⟨cs,blk_far hc hv u⟩,⟨n,far _ _ hn⟩,h0,w0.setCell a u,pt,pb,pm,bm,pq,sv,bi,bt,by rw[set_size];exact h1,by rw[set_size];exact hb,h3.far ha u,⟨h4.1,hB⟩,h5.far ha u,far _ _ h6,far _ _ h7,far _ _ h8⟩
end Go.Proofs.YtkffhgiiejbnaaaGreat.Vc
