import Derived.Deep.RegionHeld3
import Derived.BigQuiet
import Derived.Test.YtkffhgiiejbnaaaGreatQSpecA
import Derived.Test.YtkffhgiiejbnaaaGreatQClo
import Derived.Test.YtkffhgiiejbnaaaGreatQTokF
import Derived.Test.YtkffhgiiejbnaaaGreatQSetF
set_option maxRecDepth 100000
set_option maxHeartbeats 2000000
set_option linter.unusedVariables false
set_option linter.unusedSimpArgs false
namespace Go.Proofs.YtkffhgiiejbnaaaGreat.Vc
open Go.Shelf Go.RowKit YtkffhgiiejbnaaaGreatW.PrintWords YtkffhgiiejbnaaaGreatW.PrintLast YtkffhgiiejbnaaaGreatW.PrintMore Rf Aid Mp Hp Cl
theorem cell_of {w:World} {p t i:Nat} {cs:Array Value} {v:Value} (h:w.heap[p]?=some (.cells cs t (0,0))) (hv:cs[i]?=some v):w.cell? ⟨p,i,none⟩=some v:=Z75
theorem copied_any {A1 A3 A4 A5:Option Addr} (c1 c3 c4 c5:Nat) {s:Sp} {w:World} (hs:SpAt w A1 A3 A4 A5 s) (h:SpOk s) :
  Calls Tryz.prog 123 #[spV A1 A3 A4 A5 c1 c3 c4 c5 s] w fun e w'=>∃ B1 B3 B4 B5 d1 d3 d4 d5,e=.returned (spV B1 B3 B4 B5 d1 d3 d4 d5 s)/\Below w.heap.size w w':=by
 unfold spV
 have HS:=As.mk hs
 have H:=As.mk h
 clear h hs
 have hz:∀ w,(zeroValue 95).run Tryz.prog w=.ok (.agg #[.bool false,.slice none 0 0,.slice none 0 0,.slice none 0 0,.slice none 0 0,.slice none 0 0]) w:=fun w=>Z15
 go_enter Tryz.func123,Tryz.ntmps123
 go_wp2_with fail
 obtain⟨hE,hF⟩:((w.alloc (.cells #[.bool false,.slice A1 s.M.length c1,.slice none 0 0,.slice A3 s.X.length c3,.slice A4 s.C.length c4,.slice A5 s.J.length c5] 95)).alloc (.cells #[.bool false,.slice none 0 0,.slice none 0 0,.slice none 0 0,.slice none 0 0,.slice none 0 0] 95)).heap[w.heap.size]?=some (.cells #[.bool false,.slice A1 s.M.length c1,.slice none 0 0,.slice A3 s.X.length c3,.slice A4 s.C.length c4,.slice A5 s.J.length c5] 95 (0,0))/\((w.alloc (.cells #[.bool false,.slice A1 s.M.length c1,.slice none 0 0,.slice A3 s.X.length c3,.slice A4 s.C.length c4,.slice A5 s.J.length c5] 95)).alloc (.cells #[.bool false,.slice none 0 0,.slice none 0 0,.slice none 0 0,.slice none 0 0,.slice none 0 0] 95)).heap[w.heap.size+1]?=some (.cells #[.bool false,.slice none 0 0,.slice none 0 0,.slice none 0 0,.slice none 0 0,.slice none 0 0] 95 (0,0)):=by
  refine⟨?_,?_⟩
  ·show ((w.heap.push _).push _)[w.heap.size]?=_
   rw[Array.getElem?_push,if_neg (by simp),Array.getElem?_push,if_pos rfl]
  ·show ((w.heap.push _).push _)[w.heap.size+1]?=_
   rw[Array.getElem?_push,if_pos (by simp)]
 have HEa:=As.mk hE
 have HFa:=As.mk hF
 have HBa:=As.mk (below_alloc (below_alloc (Below.refl w.heap.size w) (.cells #[.bool false,.slice A1 s.M.length c1,.slice none 0 0,.slice A3 s.X.length c3,.slice A4 s.C.length c4,.slice A5 s.J.length c5] 95)) (.cells #[.bool false,.slice none 0 0,.slice none 0 0,.slice none 0 0,.slice none 0 0,.slice none 0 0] 95))
 clear hE hF hz
 generalize (w.alloc (.cells #[.bool false,.slice A1 s.M.length c1,.slice none 0 0,.slice A3 s.X.length c3,.slice A4 s.C.length c4,.slice A5 s.J.length c5] 95)).alloc (.cells #[.bool false,.slice none 0 0,.slice none 0 0,.slice none 0 0,.slice none 0 0,.slice none 0 0] 95)=wa at HEa HFa HBa ⊢
 refine start_ (n:=15) (S:=fun w'=>w'.cell? ⟨w.heap.size,1,none⟩=some (.slice A1 s.M.length c1)/\w'.cell? ⟨w.heap.size,2,none⟩=some (.slice none 0 0)/\w'.cell? ⟨w.heap.size,3,none⟩=some (.slice A3 s.X.length c3)) (ds:=[10,12,14]) #[false,false,false,false,false,false,false,false,false,false,false,false,false,false,false] (Z15) rfl rfl (⟨cell_of HEa.out rfl,cell_of HEa.out rfl,cell_of HEa.out rfl⟩) (fun hHeld=>?_)
 have HEb:As (wa.drew.heap[w.heap.size]?=_):=As.mk HEa.out;have HFb:As (wa.drew.heap[w.heap.size+1]?=_):=As.mk HFa.out;have HBb:=As.mk (below_drew1 HBa.out);clear HEa HFa HBa;generalize wa.drew=wb at HEb HFb HBb hHeld ⊢
 refine pI 0 (some 3) (bs 15 1) ?_
 refine pI 3 (some 6) (bs 15 9) ?_
 refine pI 6 (some 9) (bs 15 73) ?_
 refine tI 1 (some 4) (bs 15 75) rfl (Z71) hHeld ?_
 refine tI 4 (some 7) (bs 15 91) rfl (Z71) hHeld ?_
 refine tI 7 (some 10) (bs 15 219) rfl (Z71) hHeld ?_
 refine one_ (i:=2) (N:=some 5) (bs 15 223) rfl rfl (Z15) (Z31) (fun K hK=>?_)
 refine goes_ Tryz.func155 (Z15) rfl #[.slice A1 s.M.length c1] (by rfl) rfl rfl (Z101) ?_
 refine(cloneM A1 c1 s.M _ (Kd.C_below HS.out.M HBb.out) (by have:=H.out.nM;omega)).mono ?_
 rintro e wc ⟨B1,d1,rfl,_,hb⟩
 refine⟨_,rfl,?_⟩
 have HBc:=As.mk (bt_ HBb.out hb)
 have HEc:=As.mk ((hb.block _ (blk_lt HEb.out)).trans HEb.out)
 have HFc:=As.mk ((hb.block _ (blk_lt HFb.out)).trans HFb.out)
 refine hK.out _ _ ⟨pw_cell_below hb hHeld.1,pw_cell_below hb hHeld.2.1,pw_cell_below hb hHeld.2.2⟩ (fun hHeld=>?_)
 clear hK K hb
 refine nI ?_
 refine pI 9 (some 12) (bs 15 735) ?_
 refine one_ (i:=5) (N:=some 8) (bs 15 767) rfl rfl (Z15) (Z31) (fun K hK=>?_)
 refine goes_ Tryz.func156 (Z15) rfl #[.slice none 0 0] (by rfl) rfl rfl (Z101) ?_
 refine(cloneT _).mono ?_
 rintro e wd ⟨rfl,hb⟩
 refine⟨_,rfl,?_⟩
 have HBd:=As.mk (bt_ HBc.out hb)
 have HEd:=As.mk ((hb.block _ (blk_lt HEc.out)).trans HEc.out)
 have HFd:=As.mk ((hb.block _ (blk_lt HFc.out)).trans HFc.out)
 refine hK.out _ _ ⟨pw_cell_below hb hHeld.1,pw_cell_below hb hHeld.2.1,pw_cell_below hb hHeld.2.2⟩ (fun hHeld=>?_)
 clear hK K hb
 refine nI ?_
 refine one_ (i:=8) (N:=some 11) (bs 15 1023) rfl rfl (Z15) (Z31) (fun K hK=>?_)
 refine goes_ Tryz.func157 (Z15) rfl #[.slice A3 s.X.length c3] (by rfl) rfl rfl (Z101) ?_
 refine(cloneS A3 c3 s.X _ (Kd.C_below HS.out.X HBd.out) (by have:=H.out.nX;omega)).mono ?_
 rintro e we ⟨B3,d3,rfl,_,hb⟩
 refine⟨_,rfl,?_⟩
 have HBe:=As.mk (bt_ HBd.out hb)
 have HEe:=As.mk ((hb.block _ (blk_lt HEd.out)).trans HEd.out)
 have HFe:=As.mk ((hb.block _ (blk_lt HFd.out)).trans HFd.out)
 refine hK.out _ _ ⟨pw_cell_below hb hHeld.1,pw_cell_below hb hHeld.2.1,pw_cell_below hb hHeld.2.2⟩ (fun hHeld=>?_)
 clear hK K hb
 refine nI ?_
 refine last_ (i:=10) (N:=none) (bs 15 2047) rfl rfl (Z15) (Z31) (fun K hK=>?_)
 obtain⟨h1,h2,h3⟩:=hHeld
 have hf1:=frozen_of HEe.out 1
 have hf2:=frozen_of HEe.out 2
 have hf3:=frozen_of HEe.out 3
 refine skip_ (w1:=we.setCell ⟨w.heap.size,1,none⟩ (.slice B1 s.M.length d1)) (by rfl) rfl ?_ ?_
 ·first|(go_simp;done)|(go_simp;rfl)
 refine hK.out _ _ ?_
 clear hK K
 refine pI 11 (some 13) (bs 15 4095) ?_
 refine last_ (i:=12) (N:=none) (bs 15 8191) rfl rfl (Z15) (Z31) (fun K hK=>?_)
 refine skip_ (w1:=(we.setCell ⟨w.heap.size,1,none⟩ (.slice B1 s.M.length d1)).setCell ⟨w.heap.size,2,none⟩ (.slice none 0 0)) (by rfl) rfl ?_ ?_
 ·first|(go_simp;done)|(go_simp;rfl)
 refine hK.out _ _ ?_
 clear hK K
 refine pI 13 (some 14) (bs 15 16383) ?_
 refine last_ (i:=14) (N:=none) (bs 15 32767) rfl rfl (Z15) (Z31) (fun K hK=>?_)
 refine skip_ (w1:=((we.setCell ⟨w.heap.size,1,none⟩ (.slice B1 s.M.length d1)).setCell ⟨w.heap.size,2,none⟩ (.slice none 0 0)).setCell ⟨w.heap.size,3,none⟩ (.slice B3 s.X.length d3)) (by rfl) rfl ?_ ?_
 ·first|(go_simp;done)|(go_simp;rfl)
 refine hK.out _ _ ?_
 clear hK K
 refine done_ (Z15) ?_
 have HEf:As ((((we.setCell ⟨w.heap.size,1,none⟩ (.slice B1 s.M.length d1)).setCell ⟨w.heap.size,2,none⟩ (.slice none 0 0)).setCell ⟨w.heap.size,3,none⟩ (.slice B3 s.X.length d3)).heap[w.heap.size]?=some (.cells #[.bool false,.slice B1 s.M.length d1,.slice none 0 0,.slice B3 s.X.length d3,.slice A4 s.C.length c4,.slice A5 s.J.length c5] 95 (0,0))):=As.mk (blk_set (blk_set (blk_set HEe.out 1 _) 2 _) 3 _)
 have HFf:As ((((we.setCell ⟨w.heap.size,1,none⟩ (.slice B1 s.M.length d1)).setCell ⟨w.heap.size,2,none⟩ (.slice none 0 0)).setCell ⟨w.heap.size,3,none⟩ (.slice B3 s.X.length d3)).heap[w.heap.size+1]?=some (.cells #[.bool false,.slice none 0 0,.slice none 0 0,.slice none 0 0,.slice none 0 0,.slice none 0 0] 95 (0,0))):=As.mk (((Below.heap_setCell _ ⟨w.heap.size,3,none⟩ _ _ (by simp)).trans (Below.heap_setCell _ ⟨w.heap.size,2,none⟩ _ _ (by simp))).trans ((Below.heap_setCell _ ⟨w.heap.size,1,none⟩ _ _ (by simp)).trans HFe.out))
 have HBf:=As.mk (((HBe.out.setCell (p:=⟨w.heap.size,1,none⟩) (Nat.le_refl _) (.slice B1 s.M.length d1)).setCell (p:=⟨w.heap.size,2,none⟩) (Nat.le_refl _) (.slice none 0 0)).setCell (p:=⟨w.heap.size,3,none⟩) (Nat.le_refl _) (.slice B3 s.X.length d3))
 clear h1 h2 h3 hf1 hf2 hf3 HEe HFe HBe HEd HFd HBd HEc HFc HBc HEb HFb HBb
 generalize ((we.setCell ⟨w.heap.size,1,none⟩ (.slice B1 s.M.length d1)).setCell ⟨w.heap.size,2,none⟩ (.slice none 0 0)).setCell ⟨w.heap.size,3,none⟩ (.slice B3 s.X.length d3)=wf at HEf HFf HBf ⊢
 go_wp2
 refine start_ (n:=10) (S:=fun w'=>w'.cell? ⟨w.heap.size,4,none⟩=some (.slice A4 s.C.length c4)/\w'.cell? ⟨w.heap.size,5,none⟩=some (.slice A5 s.J.length c5)) (ds:=[7,9]) #[false,false,false,false,false,false,false,false,false,false] (Z15) rfl rfl (⟨cell_of HEf.out rfl,cell_of HEf.out rfl⟩) (fun hHeld=>?_)
 have HEg:As (wf.drew.heap[w.heap.size]?=_):=As.mk HEf.out;have HFg:As (wf.drew.heap[w.heap.size+1]?=_):=As.mk HFf.out;have HBg:=As.mk (below_drew1 HBf.out);clear HEf HFf HBf;generalize wf.drew=wg at HEg HFg HBg hHeld ⊢
 refine pI 0 (some 15) (bs 10 1) ?_
 refine pI 3 (some 18) (bs 10 9) ?_
 refine tI 1 (some 16) (bs 10 11) rfl (Z102) hHeld ?_
 refine tI 4 (some 19) (bs 10 27) rfl (Z102) hHeld ?_
 refine one_ (i:=2) (N:=some 17) (bs 10 31) rfl rfl (Z15) (Z31) (fun K hK=>?_)
 refine goes_ Tryz.func158 (Z15) rfl #[.slice A4 s.C.length c4] (by rfl) rfl rfl (Z101) ?_
 refine(cloneC A4 c4 s.C _ (Kd.C_below HS.out.C HBg.out) (by have:=H.out.nC;omega)).mono ?_
 rintro e wh ⟨B4,d4,rfl,_,hb⟩
 refine⟨_,rfl,?_⟩
 have HBh:=As.mk (bt_ HBg.out hb)
 have HEh:=As.mk ((hb.block _ (blk_lt HEg.out)).trans HEg.out)
 have HFh:=As.mk ((hb.block _ (blk_lt HFg.out)).trans HFg.out)
 refine hK.out _ _ ⟨pw_cell_below hb hHeld.1,pw_cell_below hb hHeld.2⟩ (fun hHeld=>?_)
 clear hK K hb
 refine nI ?_
 refine pI 6 (some 21) (bs 10 95) ?_
 refine one_ (i:=5) (N:=some 20) (bs 10 127) rfl rfl (Z15) (Z31) (fun K hK=>?_)
 refine goes_ Tryz.func159 (Z15) rfl #[.slice A5 s.J.length c5] (by rfl) rfl rfl (Z101) ?_
 refine(cloneJ A5 c5 s.J _ (Kd.C_below HS.out.J HBh.out) (by have:=H.out.nJ;omega)).mono ?_
 rintro e wi ⟨B5,d5,rfl,_,hb⟩
 refine⟨_,rfl,?_⟩
 have HBi:=As.mk (bt_ HBh.out hb)
 have HEi:=As.mk ((hb.block _ (blk_lt HEh.out)).trans HEh.out)
 have HFi:=As.mk ((hb.block _ (blk_lt HFh.out)).trans HFh.out)
 refine hK.out _ _ ⟨pw_cell_below hb hHeld.1,pw_cell_below hb hHeld.2⟩ (fun hHeld=>?_)
 clear hK K hb
 refine nI ?_
 refine last_ (i:=7) (N:=none) (bs 10 255) rfl rfl (Z15) (Z31) (fun K hK=>?_)
 obtain⟨h1,h2⟩:=hHeld
 have hf1:=frozen_of HEi.out 4
 have hf2:=frozen_of HEi.out 5
 refine skip_ (w1:=wi.setCell ⟨w.heap.size,4,none⟩ (.slice B4 s.C.length d4)) (by rfl) rfl ?_ ?_
 ·first|(go_simp;done)|(go_simp;rfl)
 refine hK.out _ _ ?_
 clear hK K
 refine pI 8 (some 22) (bs 10 511) ?_
 refine last_ (i:=9) (N:=none) (bs 10 1023) rfl rfl (Z15) (Z31) (fun K hK=>?_)
 refine skip_ (w1:=(wi.setCell ⟨w.heap.size,4,none⟩ (.slice B4 s.C.length d4)).setCell ⟨w.heap.size,5,none⟩ (.slice B5 s.J.length d5)) (by rfl) rfl ?_ ?_
 ·first|(go_simp;done)|(go_simp;rfl)
 refine hK.out _ _ ?_
 clear hK K
 refine done_ (Z15) ?_
 have HEj:As (((wi.setCell ⟨w.heap.size,4,none⟩ (.slice B4 s.C.length d4)).setCell ⟨w.heap.size,5,none⟩ (.slice B5 s.J.length d5)).heap[w.heap.size]?=some (.cells #[.bool false,.slice B1 s.M.length d1,.slice none 0 0,.slice B3 s.X.length d3,.slice B4 s.C.length d4,.slice B5 s.J.length d5] 95 (0,0))):=As.mk (blk_set (blk_set HEi.out 4 _) 5 _)
 have HFj:As (((wi.setCell ⟨w.heap.size,4,none⟩ (.slice B4 s.C.length d4)).setCell ⟨w.heap.size,5,none⟩ (.slice B5 s.J.length d5)).heap[w.heap.size+1]?=some (.cells #[.bool false,.slice none 0 0,.slice none 0 0,.slice none 0 0,.slice none 0 0,.slice none 0 0] 95 (0,0))):=As.mk ((Below.heap_setCell _ ⟨w.heap.size,5,none⟩ _ _ (by simp)).trans ((Below.heap_setCell _ ⟨w.heap.size,4,none⟩ _ _ (by simp)).trans HFi.out))
 have HBj:=As.mk ((HBi.out.setCell (p:=⟨w.heap.size,4,none⟩) (Nat.le_refl _) (.slice B4 s.C.length d4)).setCell (p:=⟨w.heap.size,5,none⟩) (Nat.le_refl _) (.slice B5 s.J.length d5))
 clear h1 h2 hf1 hf2 HEi HFi HBi HEh HFh HBh HEg HFg HBg
 generalize (wi.setCell ⟨w.heap.size,4,none⟩ (.slice B4 s.C.length d4)).setCell ⟨w.heap.size,5,none⟩ (.slice B5 s.J.length d5)=wj at HEj HFj HBj ⊢
 have e0:=cell_of (i:=0) HEj.out rfl
 have e1:=cell_of (i:=1) HEj.out rfl
 have e2:=cell_of (i:=2) HEj.out rfl
 have e3:=cell_of (i:=3) HEj.out rfl
 have e4:=cell_of (i:=4) HEj.out rfl
 have e5:=cell_of (i:=5) HEj.out rfl
 have g0:=cell_of (i:=0) HFj.out rfl
 have g1:=cell_of (i:=1) HFj.out rfl
 have g2:=cell_of (i:=2) HFj.out rfl
 have g3:=cell_of (i:=3) HFj.out rfl
 have g4:=cell_of (i:=4) HFj.out rfl
 have g5:=cell_of (i:=5) HFj.out rfl
 have z0:=frozen_of HFj.out 0
 have z1:=frozen_of HFj.out 1
 have z2:=frozen_of HFj.out 2
 have z3:=frozen_of HFj.out 3
 have z4:=frozen_of HFj.out 4
 have z5:=frozen_of HFj.out 5
 go_wp2
 refine bodyPost_ret (v:=.agg #[.bool false,.slice B1 s.M.length d1,.slice none 0 0,.slice B3 s.X.length d3,.slice B4 s.C.length d4,.slice B5 s.J.length d5]) ?_ rfl ⟨B1,B3,B4,B5,d1,d3,d4,d5,rfl,?_⟩
 ·simp only[results,show Tryz.f123.results=#[.cell 2 95] from rfl]
  go_simp
 ·repeat(first|exact HBj.out|refine Below.setCell ?_ (p:=⟨w.heap.size+1,_,none⟩) (Nat.le_succ _) _)
end Go.Proofs.YtkffhgiiejbnaaaGreat.Vc
namespace Go.Proofs.YtkffhgiiejbnaaaGreat.Vc
open Go.Shelf Go.RowKit YtkffhgiiejbnaaaGreatW.PrintWords YtkffhgiiejbnaaaGreatW.PrintLast YtkffhgiiejbnaaaGreatW.PrintMore Rf Aid Mp Hp Go.Proofs.YtkffhgiiejbnaaaGreat.Fn Bn Tk
def tabOf (s:Sp):List Ent × Nat × Int:=newT (byteL 256) (mp s.M) 0
structure VOk (s:Sp):Prop where
 sp:SpOk s
 tab:(tabOf s).2.2=0
 set:(Mk.newP s.X).2=0
 ids:∀ x∈s.X,((tabOf s).1.length:Int)≤x.f0
theorem load_any {A1 A3 A4 A5:Option Addr} (c1 c3 c4 c5:Nat) {s:Sp} {w:World} (hs:SpAt w A1 A3 A4 A5 s) (h:VOk s) :
  Calls Tryz.prog 117 #[spV A1 A3 A4 A5 c1 c3 c4 c5 s] w fun e w'=>∃ p n bm pm,e=.returned (.tuple #[.pointer (some ⟨p,0,none⟩),.int .i64 n,.int .i64 0])/\TabOwn w' w.heap.size p bm pm (tabOf s).1/\Below w.heap.size w w':=by
 have HB0:=As.mk (below_alloc (Below.refl w.heap.size w) (.cells #[.bool false,.slice A1 s.M.length c1,.slice none 0 0,.slice A3 s.X.length c3,.slice A4 s.C.length c4,.slice A5 s.J.length c5] 95))
 have HN:=As.mk (new_any A1 c1 s.M _ (Kd.C_below hs.M HB0.out) (by have:=h.sp.nM;omega))
 have ht:=h.tab
 unfold tabOf at *
 rw[ht,if_pos rfl]at HN
 generalize (newT (byteL 256) (mp s.M) 0).1=E at *
 generalize (newT (byteL 256) (mp s.M) 0).2.1=n at *
 unfold spV
 clear hs h ht
 go_enter Tryz.func117,Tryz.ntmps117
 go_wp2_with (go_at_call 151;refine HN.out.mono ?_;rintro e w1 ⟨v,rfl,⟨p,bm,pm,rfl,ho⟩,hb⟩)
 go_ret3
 exact⟨p,n,bm,pm,rfl,ho.lower HB0.out.size,bt_ HB0.out hb⟩
theorem lenLit (x:S93) (b p:Nat) (E:List Ent) (W:World) (hc:W.cell? ⟨b,0,none⟩=some (.pointer (some ⟨p,0,none⟩))) (ht:TabAt W p E) (hx:(E.length:Int)≤x.f0) :
  Calls Tryz.prog 120 (#[encS x]++#[.pointer (some ⟨b,0,none⟩)]) W fun e W'=>e=.returned (.bool false)/\Below W.heap.size W W':=by
 obtain⟨_,_,⟨A,c,hl,_,_⟩,_,_⟩:=ht
 have hb:b<W.heap.size:=World.block_lt_of_cell? W _ hc
 have hp:p<W.heap.size:=World.block_lt_of_cell? W _ hl
 have hne:b≠W.heap.size:=Z1
 have hlt:¬ x.f0<(E.length:Int):=Z1
 unfold encS
 show Calls Tryz.prog 120 #[.agg #[.int .i64 x.f0,.string x.f1],.pointer (some ⟨b,0,none⟩)] W _
 clear hx
 go_enter Tryz.func120,Tryz.ntmps120
 go_wp2
 go_quiet (first|(go_at_call 121;refine(len_raw p E.length c A _ (by first|exact hl|(simp;exact hl)|(go_simp;done))).mono ?_;rintro e w' ⟨rfl,rfl⟩;first|exact⟨rfl,_,rfl⟩|exact⟨rfl,0,rfl⟩|exact⟨_,rfl,_,rfl⟩))
 go_wp2
 go_ret
 exact⟨congrArg Ending.returned (congrArg Value.bool (decide_eq_false (Z1))),pw_below_drewN (below_alloc (Below.refl _ _) _) _⟩
theorem voc_zero (w:World):(zeroValue 144).run Tryz.prog w=.ok (.agg #[.bool false,.slice none 0 0,.slice none 0 0,.slice none 0 0,.slice none 0 0,.slice none 0 0,.pointer none,.pointer none,.pointer none,.int .u32 0,.int .i32 0,.int .u32 0,.slice none 0 0,.int .i64 0]) w:=Z15
structure VocAt (W:World) (v:Nat) (s:Sp):Prop where
 blk:∃ cs,W.heap[v]?=some (.cells cs 144 (0,0))
 uses:∃ n,W.cell? ⟨v,13,none⟩=some (.int .i64 n)
 parts:∃ w0 pt pb pm,w0.heap.size≤v/\Below w0.heap.size w0 W/\TabAt w0 pt (tabOf s).1/\BndAt w0 pb (cls s.C) (joinB s.J)/\Mk.SetAt w0 pm s.X ∧
  W.cell? ⟨v,6,none⟩=some (.pointer (some ⟨pt,0,none⟩))/\W.cell? ⟨v,7,none⟩=some (.pointer (some ⟨pb,0,none⟩))/\W.cell? ⟨v,8,none⟩=some (.pointer (some ⟨pm,0,none⟩))
structure VocO (lo:Nat) (W:World) (v:Nat) (s:Sp):Prop where
 blk:∃ cs,W.heap[v]?=some (.cells cs 144 (0,0))
 uses:∃ n,W.cell? ⟨v,13,none⟩=some (.int .i64 n)
 lov:lo≤v
 parts:∃ w0 pt pb pm bm pq sv bi bt,w0.heap.size≤v/\Below w0.heap.size w0 W/\TabOwn w0 lo pt bm pq (tabOf s).1/\(lo≤pb/\BndAt w0 pb (cls s.C) (joinB s.J))/\Mk.SetOwn w0 lo pm sv bi bt s.X ∧
  W.cell? ⟨v,6,none⟩=some (.pointer (some ⟨pt,0,none⟩))/\W.cell? ⟨v,7,none⟩=some (.pointer (some ⟨pb,0,none⟩))/\W.cell? ⟨v,8,none⟩=some (.pointer (some ⟨pm,0,none⟩))
theorem VocO.at_ {lo:Nat} {W:World} {v:Nat} {s:Sp} (h:VocO lo W v s):VocAt W v s:=by
 obtain⟨h1,h2,_,w0,pt,pb,pm,bm,pq,sv,bi,bt,h3,h4,h5,h6,h7,h8⟩:=h
 exact⟨h1,h2,w0,pt,pb,pm,h3,h4,h5.at_,h6.2,h7.at,h8⟩
theorem build_ok {A1 A3 A4 A5:Option Addr} (c1 c3 c4 c5:Nat) {s:Sp} {w:World} (hs:SpAt w A1 A3 A4 A5 s) (h:VOk s) :
  Calls Tryz.prog 86 #[spV A1 A3 A4 A5 c1 c3 c4 c5 s] w fun e w'=>∃ v,e=.returned (.tuple #[.pointer (some ⟨v,0,none⟩),.int .i64 0,.int .i64 0,.int .i64 0])/\VocO w.heap.size w' v s/\w.heap.size≤v/\Below w.heap.size w w':=by
 have HB1:=As.mk (below_alloc (Below.refl w.heap.size w) (.cells #[.bool false,.slice A1 s.M.length c1,.slice none 0 0,.slice A3 s.X.length c3,.slice A4 s.C.length c4,.slice A5 s.J.length c5] 95))
 have HE1:=As.mk (Go.MapKept.heap_alloc w (.cells #[.bool false,.slice A1 s.M.length c1,.slice none 0 0,.slice A3 s.X.length c3,.slice A4 s.C.length c4,.slice A5 s.J.length c5] 95)).1
 have HS:=As.mk hs
 have H:=As.mk h
 have hnone:(s.X.findIdx? fun _=>false)=none:=Z83
 have HNone:=As.mk hnone
 clear hnone hs h
 have eB:=As.mk (enters_of (P:=Tryz.prog) Tryz.func120 (Z15) rfl)
 show Calls Tryz.prog 86 #[.agg #[.bool false,.slice A1 s.M.length c1,.slice none 0 0,.slice A3 s.X.length c3,.slice A4 s.C.length c4,.slice A5 s.J.length c5]] w _
 go_enter Tryz.func86,Tryz.ntmps86
 go_wp2_with (first
  | (go_at_call 117;refine(load_any c1 c3 c4 c5 (HS.out.below HB1.out) H.out).mono ?_;rintro e w2 ⟨pt,nt,bm,pq,rfl,ht,hb⟩;have HT2:=As.mk (ht.lower HB1.out.size);have HB2:=As.mk (bt_ HB1.out hb);have HE2:=As.mk ((hb.block _ (blk_lt HE1.out)).trans HE1.out);clear hb ht HB1 HE1;
     have HB3:=As.mk (below_alloc HB2.out (.cells #[.pointer (some ⟨pt,0,none⟩)] 121));have hq:=below_alloc (Below.refl w2.heap.size w2) (.cells #[.pointer (some ⟨pt,0,none⟩)] 121);have HT3:=As.mk (HT2.out.below hq);have HE3:=As.mk ((hq.block _ (blk_lt HE2.out)).trans HE2.out);have HF3:=As.mk (Go.MapKept.heap_alloc w2 (.cells #[.pointer (some ⟨pt,0,none⟩)] 121)).1;clear hq;have d3:=cell_of (i:=3) HE3.out rfl)
  | (go_at_call 118;have hm:=Mk.new_own A3 c3 s.X _ (Kd.C_below HS.out.X HB3.out) (by have:=H.out.sp.nX;omega);rw[H.out.set,if_pos rfl]at hm;refine hm.mono ?_;clear hm;rintro e w4 ⟨v4,rfl,⟨pm,sv,bi,bt,rfl,hset⟩,hb⟩;have HS4:=As.mk (hset.lower HB3.out.size);have HB4:=As.mk (bt_ HB3.out hb);have HT4:=As.mk (HT3.out.below hb);have HE4:=As.mk ((hb.block _ (blk_lt HE3.out)).trans HE3.out);have HF4:=As.mk ((hb.block _ (blk_lt HF3.out)).trans HF3.out);clear hb hset d3 HB3 HT3 HE3 HF3;have d3:=cell_of (i:=3) HE4.out rfl)
  | (go_at_call 119;have hi:=idxS A3 c3 s.X 120 #[.pointer (some ⟨w2.heap.size,0,none⟩)] (fun _=>false) eB.out _ (Kd.C_below HS.out.X HB4.out) (by have:=H.out.sp.nX;omega) (fun W hW x hx=>lenLit x w2.heap.size pt (tabOf s).1 W (pw_cell_below hW (cell_of HF4.out rfl)) (HT4.out.at_.below hW) (H.out.ids x hx));rw[HNone.out]at hi;unfold ix at hi;simp only at hi;refine hi.mono ?_;clear hi;rintro e w5 ⟨rfl,hb⟩;have HS5:=As.mk (HS4.out.below hb);have HB5:=As.mk (bt_ HB4.out hb);have HT5:=As.mk (HT4.out.below hb);have HE5:=As.mk ((hb.block _ (blk_lt HE4.out)).trans HE4.out);have HF5:=As.mk ((hb.block _ (blk_lt HF4.out)).trans HF4.out);clear hb d3 HS4 HB4 HT4 HE4 HF4;have d4:=cell_of (i:=4) HE5.out rfl;have d5:=cell_of (i:=5) HE5.out rfl)
  | (go_at_call 122;refine(Bn.new_any A4 A5 c4 c5 s.C s.J _ (Kd.C_below HS.out.C HB5.out) (by have:=H.out.sp.nC;omega) (Kd.C_below HS.out.J HB5.out) (by have:=H.out.sp.nJ;omega) H.out.sp.hC H.out.sp.hJ).mono ?_;rintro e w6 ⟨rfl,hbnd,hb⟩;have HPB:=As.mk HB5.out.size;have HN6:=As.mk hbnd;have HS6:=As.mk (HS5.out.below hb);have HB6:=As.mk (bt_ HB5.out hb);have HT6:=As.mk (HT5.out.below hb);have HE6:=As.mk ((hb.block _ (blk_lt HE5.out)).trans HE5.out);have HF6:=As.mk ((hb.block _ (blk_lt HF5.out)).trans HF5.out);clear hb hbnd d4 d5 HS5 HB5 HT5 HE5 HF5))
 have hvz:=voc_zero
 refine start_ (n:=12) (S:=fun w'=>w'.cell? ⟨w.heap.size,0,none⟩=some (.bool false)/\w'.cell? ⟨w.heap.size,1,none⟩=some (.slice A1 s.M.length c1)/\w'.cell? ⟨w.heap.size,2,none⟩=some (.slice none 0 0)/\w'.cell? ⟨w.heap.size,3,none⟩=some (.slice A3 s.X.length c3)/\w'.cell? ⟨w.heap.size,4,none⟩=some (.slice A4 s.C.length c4)/\w'.cell? ⟨w.heap.size,5,none⟩=some (.slice A5 s.J.length c5)/\w'.cell? ⟨w2.heap.size,0,none⟩=some (.pointer (some ⟨pt,0,none⟩))) (ds:=[]) #[false,false,false,false,false,false,false,false,false,false,false,false] (Z15) rfl rfl (⟨cell_of HE6.out rfl,cell_of HE6.out rfl,cell_of HE6.out rfl,cell_of HE6.out rfl,cell_of HE6.out rfl,cell_of HE6.out rfl,cell_of HF6.out rfl⟩) (fun hHeld=>?_)
 have hq:=below_drew1 (Below.refl w6.heap.size w6);have HB7:=As.mk (bt_ HB6.out hq);have HT7:=As.mk (HT6.out.below hq);have HN7:=As.mk (HN6.out.next hq);have HS7:=As.mk (HS6.out.below hq);clear hq HB6 HT6 HN6 HS6 HE6 HF6;generalize w6.drew=w7 at HB7 HT7 HN7 HS7 hHeld ⊢
 refine pI 3 (some 54) (bs 12 8) ?_
 refine pI 4 (some 55) (bs 12 24) ?_
 refine tI 0 (some 51) (bs 12 25) rfl (Z103) hHeld ?_
 refine tI 2 (some 53) (bs 12 29) rfl (Z103) hHeld ?_
 refine one_ (i:=1) (N:=some 52) (bs 12 31) rfl rfl (Z15) (Z31) (fun K hK=>?_)
 refine goes_ Tryz.func123 (Z15) rfl #[.agg #[.bool false,.slice A1 s.M.length c1,.slice none 0 0,.slice A3 s.X.length c3,.slice A4 s.C.length c4,.slice A5 s.J.length c5]] (by rfl) rfl rfl (Z101) ?_
 have hc:=copied_any c1 c3 c4 c5 (HS.out.below HB7.out) H.out.sp
 unfold spV at hc
 refine hc.mono ?_
 clear hc
 rintro e w8 ⟨B1,B3,B4,B5,g1,g3,g4,g5,rfl,hb⟩
 refine⟨_,rfl,?_⟩
 have HB8:=As.mk (bt_ HB7.out hb)
 have HT8:=As.mk (HT7.out.below hb)
 have HN8:=As.mk (HN7.out.next hb)
 have HS8:=As.mk (HS7.out.below hb)
 refine hK.out _ _ ⟨pw_cell_below hb hHeld.1,pw_cell_below hb hHeld.2.1,pw_cell_below hb hHeld.2.2.1,pw_cell_below hb hHeld.2.2.2.1,pw_cell_below hb hHeld.2.2.2.2.1,pw_cell_below hb hHeld.2.2.2.2.2.1,pw_cell_below hb hHeld.2.2.2.2.2.2⟩ (fun hHeld=>?_)
 clear hK K hb HB7 HT7 HN7 HS7
 refine nI ?_
 refine pI 5 (some 56) (bs 12 63) ?_
 refine pI 6 (some 57) (bs 12 127) ?_
 refine one_ (i:=7) (N:=some 58) (bs 12 255) rfl rfl (Z15) (Z31) (fun K hK=>?_)
 refine value_ (w1:=w8.alloc (.cells #[.bool false,.slice B1 s.M.length g1,.slice none 0 0,.slice B3 s.X.length g3,.slice B4 s.C.length g4,.slice B5 s.J.length g5,.pointer (some ⟨pt,0,none⟩),.pointer (some ⟨w5.heap.size,0,none⟩),.pointer (some ⟨pm,0,none⟩),.int .u32 0,.int .i32 0,.int .u32 0,.slice none 0 0,.int .i64 0] 144)) (v:=.pointer (some ⟨w8.heap.size,0,none⟩)) (by rfl) rfl ?_ ?_
 ·first|(go_simp;done)|(go_simp;rfl)
 refine hK.out _ _ (⟨pw_cell_below (below_alloc (Below.refl _ _) _) hHeld.1,pw_cell_below (below_alloc (Below.refl _ _) _) hHeld.2.1,pw_cell_below (below_alloc (Below.refl _ _) _) hHeld.2.2.1,pw_cell_below (below_alloc (Below.refl _ _) _) hHeld.2.2.2.1,pw_cell_below (below_alloc (Below.refl _ _) _) hHeld.2.2.2.2.1,pw_cell_below (below_alloc (Below.refl _ _) _) hHeld.2.2.2.2.2.1,pw_cell_below (below_alloc (Below.refl _ _) _) hHeld.2.2.2.2.2.2⟩) (fun hHeld=>?_)
 clear hK K
 refine nI ?_
 refine pI 8 (some 2) (bs 12 511) ?_
 refine pI 9 (some 3) (bs 12 1023) ?_
 refine pI 10 (some 4) (bs 12 2047) ?_
 refine pI 11 (some 5) (bs 12 4095) ?_
 refine done_ (Z15) ?_
 go_wp2
 have hnew:=(Go.MapKept.heap_alloc w8 (.cells #[.bool false,.slice B1 s.M.length g1,.slice none 0 0,.slice B3 s.X.length g3,.slice B4 s.C.length g4,.slice B5 s.J.length g5,.pointer (some ⟨pt,0,none⟩),.pointer (some ⟨w5.heap.size,0,none⟩),.pointer (some ⟨pm,0,none⟩),.int .u32 0,.int .i32 0,.int .u32 0,.slice none 0 0,.int .i64 0] 144)).1
 have hbel:=below_alloc (Below.refl w8.heap.size w8) (.cells #[.bool false,.slice B1 s.M.length g1,.slice none 0 0,.slice B3 s.X.length g3,.slice B4 s.C.length g4,.slice B5 s.J.length g5,.pointer (some ⟨pt,0,none⟩),.pointer (some ⟨w5.heap.size,0,none⟩),.pointer (some ⟨pm,0,none⟩),.int .u32 0,.int .i32 0,.int .u32 0,.slice none 0 0,.int .i64 0] 144)
 have HB9:=As.mk (bt_ HB8.out hbel)
 have HV:=As.mk (VocO.mk (lo:=w.heap.size) ⟨_,hnew⟩ ⟨_,cell_of (i:=13) hnew rfl⟩ HB8.out.size ⟨w8,pt,w5.heap.size,pm,bm,pq,sv,bi,bt,Nat.le_refl _,hbel,HT8.out,⟨HPB.out,HN8.out⟩,HS8.out,cell_of (i:=6) hnew rfl,cell_of (i:=7) hnew rfl,cell_of (i:=8) hnew rfl⟩)
 clear hnew hbel hHeld
 refine bodyPost_ret (v:=.tuple #[.pointer (some ⟨w8.heap.size,0,none⟩),.int .i64 0,.int .i64 0,.int .i64 0]) ?_ rfl ⟨_,rfl,HV.out,HB8.out.size,HB9.out⟩
 simp only[results,show Tryz.f86.results=#[.tmp 2,.tmp 3,.tmp 4,.tmp 5] from rfl]
 first|(go_simp;done)|(go_simp;rfl)
theorem VocO.lower {lo lo':Nat} {W:World} {v:Nat} {s:Sp} (h:VocO lo W v s) (hl:lo'≤lo):VocO lo' W v s:=by
 obtain⟨h1,h2,h0,w0,pt,pb,pm,bm,pq,sv,bi,bt,h3,h4,h5,h6,h7,h8⟩:=h
 exact⟨h1,h2,Nat.le_trans hl h0,w0,pt,pb,pm,bm,pq,sv,bi,bt,h3,h4,h5.lower hl,⟨Nat.le_trans hl h6.1,h6.2⟩,h7.lower hl,h8⟩
theorem new_own {A1 A3 A4 A5:Option Addr} (c1 c3 c4 c5:Nat) {s:Sp} {w:World} (hs:SpAt w A1 A3 A4 A5 s) (h:VOk s) :
  Calls Tryz.prog 50 #[spV A1 A3 A4 A5 c1 c3 c4 c5 s] w fun e w'=>∃ v,e=.returned (.tuple #[.pointer (some ⟨v,0,none⟩),.int .i64 0,.int .i64 0])/\VocO w.heap.size w' v s/\w.heap.size≤v/\Below w.heap.size w w':=by
 have HB1:=As.mk (below_alloc (Below.refl w.heap.size w) (.cells #[.bool false,.slice A1 s.M.length c1,.slice none 0 0,.slice A3 s.X.length c3,.slice A4 s.C.length c4,.slice A5 s.J.length c5] 95))
 have HE1:=As.mk (Go.MapKept.heap_alloc w (.cells #[.bool false,.slice A1 s.M.length c1,.slice none 0 0,.slice A3 s.X.length c3,.slice A4 s.C.length c4,.slice A5 s.J.length c5] 95)).1
 have HS:=As.mk (hs.below HB1.out)
 have H:=As.mk h
 clear hs h
 show Calls Tryz.prog 50 #[.agg #[.bool false,.slice A1 s.M.length c1,.slice none 0 0,.slice A3 s.X.length c3,.slice A4 s.C.length c4,.slice A5 s.J.length c5]] w _
 go_enter Tryz.func50,Tryz.ntmps50
 go_wp2_with (first
  | (go_at_call 85;refine(right_ok c1 c3 c4 c5 HS.out H.out.sp).mono ?_;rintro e w2 ⟨rfl,hb⟩;have HB2:=As.mk (bt_ HB1.out hb);have HS2:=As.mk (HS.out.below hb);have he:=(hb.block _ (blk_lt HE1.out)).trans HE1.out;have d0:=cell_of (i:=0) he rfl;have d1:=cell_of (i:=1) he rfl;have d2:=cell_of (i:=2) he rfl;have d3:=cell_of (i:=3) he rfl;have d4:=cell_of (i:=4) he rfl;have d5:=cell_of (i:=5) he rfl;clear he hb HB1 HS HE1)
  | (go_at_call 86;refine(build_ok c1 c3 c4 c5 HS2.out H.out).mono ?_;rintro e w3 ⟨v,rfl,hv,hle,hb⟩;have HV:=As.mk (hv.lower HB2.out.size);have HL:=As.mk (Nat.le_trans HB2.out.size hle);have HB3:=As.mk (bt_ HB2.out hb);clear hv hb hle HB2))
 go_ret3
 exact⟨_,rfl,HV.out,HL.out,HB3.out⟩
theorem new_ok {A1 A3 A4 A5:Option Addr} (c1 c3 c4 c5:Nat) {s:Sp} {w:World} (hs:SpAt w A1 A3 A4 A5 s) (h:VOk s) :
  Calls Tryz.prog 50 #[spV A1 A3 A4 A5 c1 c3 c4 c5 s] w fun e w'=>∃ v,e=.returned (.tuple #[.pointer (some ⟨v,0,none⟩),.int .i64 0,.int .i64 0])/\VocAt w' v s/\w.heap.size≤v/\Below w.heap.size w w' :=
 (new_own c1 c3 c4 c5 hs h).mono fun e w' ⟨v,he,hv,hl,hb⟩=>⟨v,he,hv.at_,hl,hb⟩
end Go.Proofs.YtkffhgiiejbnaaaGreat.Vc
