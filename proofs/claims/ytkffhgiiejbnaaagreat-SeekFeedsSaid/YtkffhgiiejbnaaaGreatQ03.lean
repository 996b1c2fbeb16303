import Derived.Test.YtkffhgiiejbnaaaGreatQ01
import Derived.Test.YtkffhgiiejbnaaaGreatQ02
set_option maxRecDepth 100000
set_option maxHeartbeats 8000000
set_option linter.unusedVariables false
set_option linter.unusedSimpArgs false
namespace Go.Proofs.YtkffhgiiejbnaaaGreat.Rf
open Go.RowKit YtkffhgiiejbnaaaGreatW.PrintWords YtkffhgiiejbnaaaGreatW.PrintLast YtkffhgiiejbnaaaGreatW.PrintMore
attribute [local go_sem] max2_int min2_int max_two min_two max_three min_three max_four min_four
def ligatureref10_Vocab_Bad.l0:Nat->List Int->Int->List ByteArray->List (S91)->List (S165)->List (S108)->List (S93)->Option (Int)
 | 0,_,_,_,_,_,_,_=>none
 | k+1,x1,x5,x297000,x297001,x297002,x297003,x297004=>if x5<(x1.length:Int) then (if 0≤x5 then ((ligatureref10_Vocab_Has.f k x297000 x297001 x297002 x297003 x297004 (rd x1 x5)).bind fun t298=>(if t298=true then (ligatureref10_Vocab_Bad.l0 k x1 (wrap64 (x5+1)) x297000 x297001 x297002 x297003 x297004) else (some x5))) else (none)) else (some (-1))
def ligatureref10_Vocab_Bad.f (k:Nat) (l0_0:List ByteArray) (l0_1:List (S91)) (l0_2:List (S165)) (l0_3:List (S108)) (l0_4:List (S93)) (l1:List Int):Option (Int):=ligatureref10_Vocab_Bad.l0 k l1 0 l0_0 l0_1 l0_2 l0_3 l0_4
theorem ligatureref10_Vocab_Bad.calls (k:Nat) (A0_0:Option Addr) (c0_0:Nat) (l0_0:List ByteArray) (A0_1:Option Addr) (c0_1:Nat) (l0_1:List (S91)) (A0_2:Option Addr) (c0_2:Nat) (l0_2:List (S165)) (A0_3:Option Addr) (c0_3:Nat) (l0_3:List (S108)) (A0_4:Option Addr) (c0_4:Nat) (l0_4:List (S93)) (A1:Option Addr) (c1:Nat) (l1:List Int) (r:Int) (w:World) (hr0_0:Kd.C Kd.string w A0_0 l0_0.length l0_0) (hc0_0:l0_0.length≤c0_0) (hr0_1:Kd.C k91 w A0_1 l0_1.length l0_1) (hc0_1:l0_1.length≤c0_1) (hr0_2:Kd.C k165 w A0_2 l0_2.length l0_2) (hc0_2:l0_2.length≤c0_2) (hr0_3:Kd.C k108 w A0_3 l0_3.length l0_3) (hc0_3:l0_3.length≤c0_3) (hr0_4:Kd.C k93 w A0_4 l0_4.length l0_4) (hc0_4:l0_4.length≤c0_4) (hr1:Kd.C (Kd.int .i64) w A1 l1.length l1) (hc1:l1.length≤c1) (h:ligatureref10_Vocab_Bad.f k l0_0 l0_1 l0_2 l0_3 l0_4 l1=some r) :
  Calls Tryz.prog 34 #[.agg #[.slice A0_0 l0_0.length c0_0,.slice A0_1 l0_1.length c0_1,.slice A0_2 l0_2.length c0_2,.slice A0_3 l0_3.length c0_3,.slice A0_4 l0_4.length c0_4],.slice A1 l1.length c1] w fun e w'=>e=.returned (.int .i64 r)/\Below w.heap.size w w':=by
 have hu38:=Tryz.underlying38
 have HR0_0:=Aside0.mk hr0_0
 have HC0_0:=Aside0.mk hc0_0
 clear hr0_0 hc0_0
 have HR0_1:=Aside0.mk hr0_1
 have HC0_1:=Aside0.mk hc0_1
 clear hr0_1 hc0_1
 have HR0_2:=Aside0.mk hr0_2
 have HC0_2:=Aside0.mk hc0_2
 clear hr0_2 hc0_2
 have HR0_3:=Aside0.mk hr0_3
 have HC0_3:=Aside0.mk hc0_3
 clear hr0_3 hc0_3
 have HR0_4:=Aside0.mk hr0_4
 have HC0_4:=Aside0.mk hc0_4
 clear hr0_4 hc0_4
 have HR1:=Aside0.mk hr1
 have HC1:=Aside0.mk hc1
 clear hr1 hc1
 have HB:=Aside0.mk (Below.refl w.heap.size w)
 have H:(ligatureref10_Vocab_Bad.l0 k l1 0 l0_0 l0_1 l0_2 l0_3 l0_4)=some r:=h
 clear h
 have H':=Aside0.mk H
 clear H
 go_enter Tryz.func34,Tryz.ntmps34
 go_wp2_with (first|((with_reducible refine gate_dst (N:=2) rfl ?_);refine bxE 2 (#[.slice A0_0 l0_0.length c0_0,.slice A0_1 l0_1.length c0_1,.slice A0_2 l0_2.length c0_2,.slice A0_3 l0_3.length c0_3,.slice A0_4 l0_4.length c0_4]) 38 ?_;intro gb296 hg w3 hbox hb;have BK296:=Aside0.mk (hbox);have GW296:=Aside0.mk ((Z175:w.heap.size≤gb296));have GE296:=GW296;replace HB:=Aside0.mk (below_step (Z20) hb);clear hb hbox hg))
 go_loopg [5] k (fun kq v5 w'=>∃ (x5_1:Int),v5=.int .i64 x5_1/\Aside0 (ligatureref10_Vocab_Bad.l0 kq l1 x5_1 l0_0 l0_1 l0_2 l0_3 l0_4=some r)/\Aside0 (kq≤k)/\Aside0 (w'.heap[gb296]?=some (.cells #[(.slice A0_0 l0_0.length c0_0),(.slice A0_1 l0_1.length c0_1),(.slice A0_2 l0_2.length c0_2),(.slice A0_3 l0_3.length c0_3),(.slice A0_4 l0_4.length c0_4)] 38 (0,0)))/\Aside0 (Below w.heap.size w w'))
 case atStart=>exact⟨(0),(Z16),H',⟨Nat.le_refl _⟩,⟨Z56⟩,⟨Z57⟩⟩
 case round =>
  clear H'
  try clear c1
  try clear p2
  try clear c3
  obtain⟨x5_1,rfl,HA,HK1,BK296,HB⟩:=hrel
  cases gk with
  | zero=>exact absurd HA.out (by simp[ligatureref10_Vocab_Bad.l0])
  | succ k1 =>
   have H:=HA.out
   clear HA
   simp only[ligatureref10_Vocab_Bad.l0]at H
   by_cases c4:x5_1<(l1.length:Int)
   ·rw[if_pos c4]at H
    have c4b0:=decide_eq_true c4
    clear c4
    by_cases c5:0≤x5_1
    ·rw[if_pos c5]at H
     have c5b0:=decide_eq_true c5
     clear c5
     replace H:=Option.bind_eq_some_iff.mp H
     obtain⟨t298,A60,H⟩:=H
     replace H:(if t298=true then (ligatureref10_Vocab_Bad.l0 k1 l1 (wrap64 (x5_1+1)) l0_0 l0_1 l0_2 l0_3 l0_4) else (some x5_1))=some r:=H
     have A6:=Aside0.mk A60
     clear A60
     by_cases c7:t298=true
     ·subst c7
      have H1:(ligatureref10_Vocab_Bad.l0 k1 l1 (wrap64 (x5_1+1)) l0_0 l0_1 l0_2 l0_3 l0_4)=some r:=Z34
      clear H
      have H:=H1
      clear H1
      have H':=Aside0.mk H
      clear H
      try go_wp2
      have n0_:=Aside0.mk (blk_drew BK296.out)
      have n1_:=Aside0.mk (below_drew1 HB.out)
      clear BK296
      clear HB
      have BK296:=n0_
      have HB:=n1_
      clear n0_ n1_
      have p297:0≤(x5_1:Int):=of_decide_eq_true (Z18)
      have q297:x5_1<(l1.length:Int):=of_decide_eq_true (Z18)
      obtain⟨ad297,e297,hx297_0⟩:=Kd.at_int HR1.out x5_1 p297 q297
      have hw297_0:=hx297_0
      cases e297
      replace hx297_0:=(HB.out.cell (World.block_lt_of_cell? w _ hx297_0)).trans hx297_0
      replace p297:=eq_true p297
      replace q297:=eq_true q297
      refine start_ (n:=7) (S:=fun w'=>w'.cell? ⟨gb296,0,none⟩=some (.slice A0_0 l0_0.length c0_0)/\w'.cell? ⟨gb296,1,none⟩=some (.slice A0_1 l0_1.length c0_1)/\w'.cell? ⟨gb296,2,none⟩=some (.slice A0_2 l0_2.length c0_2)/\w'.cell? ⟨gb296,3,none⟩=some (.slice A0_3 l0_3.length c0_3)/\w'.cell? ⟨gb296,4,none⟩=some (.slice A0_4 l0_4.length c0_4)/\w'.cell? (ad297.add (x5_1).toNat)=some (.int .i64 (rd l1 x5_1))) (ds:=[]) #[false,false,false,false,false,false,false] (Z15) rfl rfl ⟨(blk_cell BK296.out 0).trans rfl,(blk_cell BK296.out 1).trans rfl,(blk_cell BK296.out 2).trans rfl,(blk_cell BK296.out 3).trans rfl,(blk_cell BK296.out 4).trans rfl,((HB.out.cell (World.block_lt_of_cell? w _ hw297_0)).trans hw297_0)⟩ (fun hHeld=>?_)
      generalize wr.drew=w8 at BK296 HB hx297_0 hHeld ⊢
      refine pI 1 (some 13) (bs 7 2) ?_
      refine pI 2 (some 14) (bs 7 6) ?_
      refine pI 3 (some 15) (bs 7 14) ?_
      refine take_ (i:=0) (N:=some 12) (v:=?_) (a':=?_) #[true,true,true,true,false,false,false] rfl rfl (Z15) (fun _ _ _ h=>h) (Or.inl ⟨by rfl,?_⟩) hHeld ?_ ?_
      rotate_left
      ·rintro w' ⟨s0,s1,s2,s3,s4,s5⟩
       go_simp
       with_reducible rfl
      rotate_left
      ·simp only[Act.put,List.setIfInBounds_toArray,List.set_cons_zero,List.set_cons_succ,i64_w,i32_w]
       rfl
      refine take_ (i:=4) (N:=some 16) (v:=?_) (a':=?_) #[true,true,true,true,true,false,false] rfl rfl (Z15) (fun _ _ _ h=>h) (Or.inl ⟨by rfl,?_⟩) hHeld ?_ ?_
      rotate_left
      ·rintro w' ⟨s0,s1,s2,s3,s4,s5⟩
       go_simp
       with_reducible rfl
      rotate_left
      ·simp only[Act.put,List.setIfInBounds_toArray,List.set_cons_zero,List.set_cons_succ,i64_w,i32_w]
       rfl
      refine one_ (i:=5) (N:=some 17) (bs 7 63) rfl rfl (Z15) (Z31) (fun K hK=>?_)
      refine goes_ Tryz.func77 (Z15) rfl #[.agg #[.slice A0_0 l0_0.length c0_0,.slice A0_1 l0_1.length c0_1,.slice A0_2 l0_2.length c0_2,.slice A0_3 l0_3.length c0_3,.slice A0_4 l0_4.length c0_4],.int .i64 (rd l1 x5_1)] (by rfl) rfl rfl (Z35) ?_
      with_reducible refine(ligatureref10_Vocab_Has.calls k1 _ _ l0_0 _ _ l0_1 _ _ l0_2 _ _ l0_3 _ _ l0_4 (rd l1 x5_1) true _ ?side1 ?side2 ?side3 ?side4 ?side5 ?side6 ?side7 ?side8 ?side9 ?side10 A6.out).mono ?_
      (case side1=>exact Z46)
      (case side2=>exact HC0_0.out)
      (case side3=>exact Z47)
      (case side4=>exact HC0_1.out)
      (case side5=>exact Z48)
      (case side6=>exact HC0_2.out)
      (case side7=>exact Z49)
      (case side8=>exact HC0_3.out)
      (case side9=>exact Z55)
      (case side10=>exact HC0_4.out)
      rintro e w9 ⟨rfl,hb⟩
      refine⟨_,rfl,?_⟩
      have n0_:=Aside0.mk (blk_below (g:=gb296) (o:=.cells #[.slice A0_0 l0_0.length c0_0,.slice A0_1 l0_1.length c0_1,.slice A0_2 l0_2.length c0_2,.slice A0_3 l0_3.length c0_3,.slice A0_4 l0_4.length c0_4] 38 (0,0)) (Z56) hb)
      have n1_:=Aside0.mk (below_step (Z57) hb)
      clear BK296
      clear HB
      have BK296:=n0_
      have HB:=n1_
      clear n0_ n1_
      (try clear hb)
      (try clear hb2)
      (try clear hk)
      (try clear hi)
      refine hK.out _ _ ⟨(blk_cell BK296.out 0).trans rfl,(blk_cell BK296.out 1).trans rfl,(blk_cell BK296.out 2).trans rfl,(blk_cell BK296.out 3).trans rfl,(blk_cell BK296.out 4).trans rfl,((HB.out.cell (World.block_lt_of_cell? w _ hw297_0)).trans hw297_0)⟩ (fun hHeld=>?_)
      clear hK K
      refine norm_ (a':=?_) ?_ ?_
      rotate_left
      ·show Act.put _ (some 17) _=_
       simp only[Act.put,List.setIfInBounds_toArray,List.set_cons_zero,List.set_cons_succ,i64_w,i32_w]
       rfl
      refine pI 6 (some 18) (bs 7 127) ?_
      refine done_ (Z15) ?_
      try go_wp2
      go_roundg k1
      case measure=>have:=HK1.out;omega
      case rel=>exact⟨(wrap64 (x5_1+1)),(Z16),H',⟨Z19⟩,⟨Z56⟩,⟨Z57⟩⟩
     ·replace c7:=Bool.eq_false_iff.mpr c7
      subst c7
      have H1:(some x5_1)=some r:=Z176
      clear H
      have H:=H1
      clear H1
      obtain rfl:=Option.some.inj H
      try go_wp2
      have n0_:=Aside0.mk (blk_drew BK296.out)
      have n1_:=Aside0.mk (below_drew1 HB.out)
      clear BK296
      clear HB
      have BK296:=n0_
      have HB:=n1_
      clear n0_ n1_
      have p297:0≤(x5_1:Int):=of_decide_eq_true (Z18)
      have q297:x5_1<(l1.length:Int):=of_decide_eq_true (Z18)
      obtain⟨ad297,e297,hx297_0⟩:=Kd.at_int HR1.out x5_1 p297 q297
      have hw297_0:=hx297_0
      cases e297
      replace hx297_0:=(HB.out.cell (World.block_lt_of_cell? w _ hx297_0)).trans hx297_0
      replace p297:=eq_true p297
      replace q297:=eq_true q297
      refine start_ (n:=7) (S:=fun w'=>w'.cell? ⟨gb296,0,none⟩=some (.slice A0_0 l0_0.length c0_0)/\w'.cell? ⟨gb296,1,none⟩=some (.slice A0_1 l0_1.length c0_1)/\w'.cell? ⟨gb296,2,none⟩=some (.slice A0_2 l0_2.length c0_2)/\w'.cell? ⟨gb296,3,none⟩=some (.slice A0_3 l0_3.length c0_3)/\w'.cell? ⟨gb296,4,none⟩=some (.slice A0_4 l0_4.length c0_4)/\w'.cell? (ad297.add (x5_1).toNat)=some (.int .i64 (rd l1 x5_1))) (ds:=[]) #[false,false,false,false,false,false,false] (Z15) rfl rfl ⟨(blk_cell BK296.out 0).trans rfl,(blk_cell BK296.out 1).trans rfl,(blk_cell BK296.out 2).trans rfl,(blk_cell BK296.out 3).trans rfl,(blk_cell BK296.out 4).trans rfl,((HB.out.cell (World.block_lt_of_cell? w _ hw297_0)).trans hw297_0)⟩ (fun hHeld=>?_)
      generalize wr.drew=w10 at BK296 HB hx297_0 hHeld ⊢
      refine pI 1 (some 13) (bs 7 2) ?_
      refine pI 2 (some 14) (bs 7 6) ?_
      refine pI 3 (some 15) (bs 7 14) ?_
      refine take_ (i:=0) (N:=some 12) (v:=?_) (a':=?_) #[true,true,true,true,false,false,false] rfl rfl (Z15) (fun _ _ _ h=>h) (Or.inl ⟨by rfl,?_⟩) hHeld ?_ ?_
      rotate_left
      ·rintro w' ⟨s0,s1,s2,s3,s4,s5⟩
       go_simp
       with_reducible rfl
      rotate_left
      ·simp only[Act.put,List.setIfInBounds_toArray,List.set_cons_zero,List.set_cons_succ,i64_w,i32_w]
       rfl
      refine take_ (i:=4) (N:=some 16) (v:=?_) (a':=?_) #[true,true,true,true,true,false,false] rfl rfl (Z15) (fun _ _ _ h=>h) (Or.inl ⟨by rfl,?_⟩) hHeld ?_ ?_
      rotate_left
      ·rintro w' ⟨s0,s1,s2,s3,s4,s5⟩
       go_simp
       with_reducible rfl
      rotate_left
      ·simp only[Act.put,List.setIfInBounds_toArray,List.set_cons_zero,List.set_cons_succ,i64_w,i32_w]
       rfl
      refine one_ (i:=5) (N:=some 17) (bs 7 63) rfl rfl (Z15) (Z31) (fun K hK=>?_)
      refine goes_ Tryz.func77 (Z15) rfl #[.agg #[.slice A0_0 l0_0.length c0_0,.slice A0_1 l0_1.length c0_1,.slice A0_2 l0_2.length c0_2,.slice A0_3 l0_3.length c0_3,.slice A0_4 l0_4.length c0_4],.int .i64 (rd l1 x5_1)] (by rfl) rfl rfl (Z35) ?_
      with_reducible refine(ligatureref10_Vocab_Has.calls k1 _ _ l0_0 _ _ l0_1 _ _ l0_2 _ _ l0_3 _ _ l0_4 (rd l1 x5_1) false _ ?side1 ?side2 ?side3 ?side4 ?side5 ?side6 ?side7 ?side8 ?side9 ?side10 A6.out).mono ?_
      (case side1=>exact Z46)
      (case side2=>exact HC0_0.out)
      (case side3=>exact Z47)
      (case side4=>exact HC0_1.out)
      (case side5=>exact Z48)
      (case side6=>exact HC0_2.out)
      (case side7=>exact Z49)
      (case side8=>exact HC0_3.out)
      (case side9=>exact Z55)
      (case side10=>exact HC0_4.out)
      rintro e w11 ⟨rfl,hb⟩
      refine⟨_,rfl,?_⟩
      have n0_:=Aside0.mk (blk_below (g:=gb296) (o:=.cells #[.slice A0_0 l0_0.length c0_0,.slice A0_1 l0_1.length c0_1,.slice A0_2 l0_2.length c0_2,.slice A0_3 l0_3.length c0_3,.slice A0_4 l0_4.length c0_4] 38 (0,0)) (Z56) hb)
      have n1_:=Aside0.mk (below_step (Z57) hb)
      clear BK296
      clear HB
      have BK296:=n0_
      have HB:=n1_
      clear n0_ n1_
      (try clear hb)
      (try clear hb2)
      (try clear hk)
      (try clear hi)
      refine hK.out _ _ ⟨(blk_cell BK296.out 0).trans rfl,(blk_cell BK296.out 1).trans rfl,(blk_cell BK296.out 2).trans rfl,(blk_cell BK296.out 3).trans rfl,(blk_cell BK296.out 4).trans rfl,((HB.out.cell (World.block_lt_of_cell? w _ hw297_0)).trans hw297_0)⟩ (fun hHeld=>?_)
      clear hK K
      refine norm_ (a':=?_) ?_ ?_
      rotate_left
      ·show Act.put _ (some 17) _=_
       simp only[Act.put,List.setIfInBounds_toArray,List.set_cons_zero,List.set_cons_succ,i64_w,i32_w]
       rfl
      refine pI 6 (some 18) (bs 7 127) ?_
      refine done_ (Z15) ?_
      try go_wp2
      go_ret
      exact⟨Z21,Z57⟩
    ·rw[if_neg c5]at H
     exact absurd H (by simp)
   ·rw[if_neg c4]at H
    have c4b0:=decide_eq_false c4
    clear c4
    obtain rfl:=Option.some.inj H
    go_wp2
    go_ret
    exact⟨Z21,Z57⟩
end Go.Proofs.YtkffhgiiejbnaaaGreat.Rf
namespace Go.Proofs.YtkffhgiiejbnaaaGreat.Rf
open Go.RowKit YtkffhgiiejbnaaaGreatW.PrintWords YtkffhgiiejbnaaaGreatW.PrintLast YtkffhgiiejbnaaaGreatW.PrintMore
attribute [local go_sem] max2_int min2_int max_two min_two max_three min_three max_four min_four
mutual
def ligatureref10_Vocab_Items.l0:Nat->List Int->List Int->Int->List ByteArray->List (S91)->List (S165)->List (S108)->List (S93)->Option (List Int)
 | 0,_,_,_,_,_,_,_,_=>none
 | k+1,x1,x5,x6,x300000,x300001,x300002,x300003,x300004=>if x6<(x1.length:Int) then (if 0≤x6 then ((ligatureref10_Vocab_Mark.f k x300000 x300001 x300002 x300003 x300004 (rd x1 x6)).bind fun t301=>(if t301<0 then (if x5.length<17592186044416 then (ligatureref10_Vocab_Items.l0 k x1 (x5++[t301]) (wrap64 (x6+1)) x300000 x300001 x300002 x300003 x300004) else (none)) else (if 0≤(rd x1 x6) then (if (rd x1 x6)<(x300000.length:Int) then (ligatureref10_Vocab_Items.l1 k x1 x5 x6 (rdOf ByteArray.empty x300000 (rd x1 x6)) 0 x300000 x300001 x300002 x300003 x300004) else (none)) else (none)))) else (none)) else (some x5)
def ligatureref10_Vocab_Items.l1:Nat->List Int->List Int->Int->ByteArray->Int->List ByteArray->List (S91)->List (S165)->List (S108)->List (S93)->Option (List Int)
 | 0,_,_,_,_,_,_,_,_,_,_=>none
 | k+1,x1,x5,x6,x8,x9,x300000,x300001,x300002,x300003,x300004=>if x9<(x8.size:Int) then (if 0≤x9 then (if x5.length<17592186044416 then (ligatureref10_Vocab_Items.l1 k x1 (x5++[wrap64 (bt x8 x9)]) x6 x8 (wrap64 (x9+1)) x300000 x300001 x300002 x300003 x300004) else (none)) else (none)) else (ligatureref10_Vocab_Items.l0 k x1 x5 (wrap64 (x6+1)) x300000 x300001 x300002 x300003 x300004)
end
def ligatureref10_Vocab_Items.f (k:Nat) (l0_0:List ByteArray) (l0_1:List (S91)) (l0_2:List (S165)) (l0_3:List (S108)) (l0_4:List (S93)) (l1:List Int):Option (List Int):=ligatureref10_Vocab_Items.l0 k l1 ([]:List Int) 0 l0_0 l0_1 l0_2 l0_3 l0_4
def ligatureref10_Vocab_Items.T8:Bool × List (List Nat × List Nat):=(true,[([],[]),([0],[0]),([1],[1]),([],[]),([],[]),([3,4],[3,4]),([5],[5]),([2,6],[2,6]),([7],[7]),([8,0,1,2,3,4,5,6,7,8],[8])])
def ligatureref10_Vocab_Items.B8:List Nat:=[0,1,3,0,0,24,56,127,255,511]
theorem ligatureref10_Vocab_Items.tab8:rtab .any (opsOf Tryz.f36 8)=ligatureref10_Vocab_Items.T8:=Z15
theorem ligatureref10_Vocab_Items.bits8:waitsOk ligatureref10_Vocab_Items.T8.2 ligatureref10_Vocab_Items.B8=true:=Z15
theorem ligatureref10_Vocab_Items.calls (k:Nat) (A0_0:Option Addr) (c0_0:Nat) (l0_0:List ByteArray) (A0_1:Option Addr) (c0_1:Nat) (l0_1:List (S91)) (A0_2:Option Addr) (c0_2:Nat) (l0_2:List (S165)) (A0_3:Option Addr) (c0_3:Nat) (l0_3:List (S108)) (A0_4:Option Addr) (c0_4:Nat) (l0_4:List (S93)) (A1:Option Addr) (c1:Nat) (l1:List Int) (r:List Int) (w:World) (hr0_0:Kd.C Kd.string w A0_0 l0_0.length l0_0) (hc0_0:l0_0.length≤c0_0) (hr0_1:Kd.C k91 w A0_1 l0_1.length l0_1) (hc0_1:l0_1.length≤c0_1) (hr0_2:Kd.C k165 w A0_2 l0_2.length l0_2) (hc0_2:l0_2.length≤c0_2) (hr0_3:Kd.C k108 w A0_3 l0_3.length l0_3) (hc0_3:l0_3.length≤c0_3) (hr0_4:Kd.C k93 w A0_4 l0_4.length l0_4) (hc0_4:l0_4.length≤c0_4) (hr1:Kd.C (Kd.int .i64) w A1 l1.length l1) (hc1:l1.length≤c1) (h:ligatureref10_Vocab_Items.f k l0_0 l0_1 l0_2 l0_3 l0_4 l1=some r) :
  Calls Tryz.prog 36 #[.agg #[.slice A0_0 l0_0.length c0_0,.slice A0_1 l0_1.length c0_1,.slice A0_2 l0_2.length c0_2,.slice A0_3 l0_3.length c0_3,.slice A0_4 l0_4.length c0_4],.slice A1 l1.length c1] w fun e w'=>∃ v0_:Value,e=.returned (v0_)/\Kd.R (Kd.int .i64) 3 w' w.heap.size (fun _=>True) v0_ r/\Below w.heap.size w w':=by
 have hu38:=Tryz.underlying38
 have HR0_0:=Aside0.mk hr0_0
 have HC0_0:=Aside0.mk hc0_0
 clear hr0_0 hc0_0
 have HR0_1:=Aside0.mk hr0_1
 have HC0_1:=Aside0.mk hc0_1
 clear hr0_1 hc0_1
 have HR0_2:=Aside0.mk hr0_2
 have HC0_2:=Aside0.mk hc0_2
 clear hr0_2 hc0_2
 have HR0_3:=Aside0.mk hr0_3
 have HC0_3:=Aside0.mk hc0_3
 clear hr0_3 hc0_3
 have HR0_4:=Aside0.mk hr0_4
 have HC0_4:=Aside0.mk hc0_4
 clear hr0_4 hc0_4
 have HR1:=Aside0.mk hr1
 have HC1:=Aside0.mk hc1
 clear hr1 hc1
 have HB:=Aside0.mk (Below.refl w.heap.size w)
 have H:(ligatureref10_Vocab_Items.l0 k l1 ([]:List Int) 0 l0_0 l0_1 l0_2 l0_3 l0_4)=some r:=h
 clear h
 have H':=Aside0.mk H
 clear H
 go_enter Tryz.func36,Tryz.ntmps36
 go_wp2_with (first|((with_reducible refine gate_dst (N:=2) rfl ?_);refine bxE 2 (#[.slice A0_0 l0_0.length c0_0,.slice A0_1 l0_1.length c0_1,.slice A0_2 l0_2.length c0_2,.slice A0_3 l0_3.length c0_3,.slice A0_4 l0_4.length c0_4]) 38 ?_;intro gb299 hg w3 hbox hb;have BK299:=Aside0.mk (hbox);have GW299:=Aside0.mk ((Z175:w.heap.size≤gb299));have GE299:=GW299;replace HB:=Aside0.mk (below_step (Z20) hb);clear hb hbox hg))
 go_loopg [5,6] k (fun kq v5 v6 w'=>∃ (x5_1:List Int) (x6_1:Int),v6=.int .i64 x6_1/\Aside0 (ligatureref10_Vocab_Items.l0 kq l1 x5_1 x6_1 l0_0 l0_1 l0_2 l0_3 l0_4=some r)/\Aside0 (kq≤k)/\Aside0 (Kd.R (Kd.int .i64) 3 w' w.heap.size (fun _=>True) v5 x5_1)/\Aside0 (w'.heap[gb299]?=some (.cells #[(.slice A0_0 l0_0.length c0_0),(.slice A0_1 l0_1.length c0_1),(.slice A0_2 l0_2.length c0_2),(.slice A0_3 l0_3.length c0_3),(.slice A0_4 l0_4.length c0_4)] 38 (0,0)))/\Aside0 (Below w.heap.size w w'))
 case atStart=>exact⟨(([]:List Int)),(0),(Z16),H',⟨Nat.le_refl _⟩,⟨Z27⟩,⟨Z58⟩,⟨Z59⟩⟩
 case round =>
  clear H'
  try clear c1
  try clear p2
  try clear c3
  obtain⟨x5_1,x6_1,rfl,HA,HK1,HO_5,BK299,HB⟩:=hrel
  cases gk with
  | zero=>exact absurd HA.out (by simp[ligatureref10_Vocab_Items.l0])
  | succ k1 =>
   have H:=HA.out
   clear HA
   simp only[ligatureref10_Vocab_Items.l0]at H
   by_cases c4:x6_1<(l1.length:Int)
   ·rw[if_pos c4]at H
    have c4b0:=decide_eq_true c4
    clear c4
    by_cases c5:0≤x6_1
    ·rw[if_pos c5]at H
     have c5b0:=decide_eq_true c5
     clear c5
     replace H:=Option.bind_eq_some_iff.mp H
     obtain⟨t301,A60,H⟩:=H
     replace H:(if t301<0 then (if x5_1.length<17592186044416 then (ligatureref10_Vocab_Items.l0 k1 l1 (x5_1++[t301]) (wrap64 (x6_1+1)) l0_0 l0_1 l0_2 l0_3 l0_4) else (none)) else (if 0≤(rd l1 x6_1) then (if (rd l1 x6_1)<(l0_0.length:Int) then (ligatureref10_Vocab_Items.l1 k1 l1 x5_1 x6_1 (rdOf ByteArray.empty l0_0 (rd l1 x6_1)) 0 l0_0 l0_1 l0_2 l0_3 l0_4) else (none)) else (none)))=some r:=H
     have A6:=Aside0.mk A60
     clear A60
     by_cases c7:t301<0
     ·rw[if_pos c7]at H
      have c7b0:=decide_eq_true c7
      clear c7
      by_cases c8:x5_1.length<17592186044416
      ·rw[if_pos c8]at H
       have LMc8:=Aside0.mk c8
       clear c8
       obtain⟨y302,hy302⟩:∃ y_:List Int,y_=(x5_1++[t301]):=⟨_,rfl⟩
       replace H:(ligatureref10_Vocab_Items.l0 k1 l1 y302 (wrap64 (x6_1+1)) l0_0 l0_1 l0_2 l0_3 l0_4)=some r:=by first|(rw[hy302];with_reducible exact H)|(have H2_:=(Option.bind_some _ _).symm.trans H;rw[hy302];with_reducible exact H2_)|(have H2_:=(Option.bind_some _ _).symm.trans H;with_reducible exact H2_)|with_reducible exact H|(rw[hy302];exact H)|exact H
       have Ny302:=Aside0.mk hy302
       clear hy302
       have H':=Aside0.mk H
       clear H
       try go_wp2
       have n0_:=Aside0.mk (Kd.R_drew HO_5.out)
       have n1_:=Aside0.mk (blk_drew BK299.out)
       have n2_:=Aside0.mk (below_drew1 HB.out)
       clear HO_5
       clear BK299
       clear HB
       have HO_5:=n0_
       have BK299:=n1_
       have HB:=n2_
       clear n0_ n1_ n2_
       have p300:0≤(x6_1:Int):=of_decide_eq_true (Z18)
       have q300:x6_1<(l1.length:Int):=of_decide_eq_true (Z18)
       obtain⟨ad300,e300,hx300_0⟩:=Kd.at_int HR1.out x6_1 p300 q300
       have hw300_0:=hx300_0
       cases e300
       replace hx300_0:=(HB.out.cell (World.block_lt_of_cell? w _ hx300_0)).trans hx300_0
       replace p300:=eq_true p300
       replace q300:=eq_true q300
       refine start_ (n:=7) (S:=fun w'=>w'.cell? ⟨gb299,0,none⟩=some (.slice A0_0 l0_0.length c0_0)/\w'.cell? ⟨gb299,1,none⟩=some (.slice A0_1 l0_1.length c0_1)/\w'.cell? ⟨gb299,2,none⟩=some (.slice A0_2 l0_2.length c0_2)/\w'.cell? ⟨gb299,3,none⟩=some (.slice A0_3 l0_3.length c0_3)/\w'.cell? ⟨gb299,4,none⟩=some (.slice A0_4 l0_4.length c0_4)/\w'.cell? (ad300.add (x6_1).toNat)=some (.int .i64 (rd l1 x6_1))) (ds:=[]) #[false,false,false,false,false,false,false] (Z15) rfl rfl ⟨(blk_cell BK299.out 0).trans rfl,(blk_cell BK299.out 1).trans rfl,(blk_cell BK299.out 2).trans rfl,(blk_cell BK299.out 3).trans rfl,(blk_cell BK299.out 4).trans rfl,((HB.out.cell (World.block_lt_of_cell? w _ hw300_0)).trans hw300_0)⟩ (fun hHeld=>?_)
       generalize wr.drew=w9 at HO_5 BK299 HB hx300_0 hHeld ⊢
       refine pI 1 (some 17) (bs 7 2) ?_
       refine pI 2 (some 18) (bs 7 6) ?_
       refine pI 3 (some 19) (bs 7 14) ?_
       refine take_ (i:=0) (N:=some 16) (v:=?_) (a':=?_) #[true,true,true,true,false,false,false] rfl rfl (Z15) (fun _ _ _ h=>h) (Or.inl ⟨by rfl,?_⟩) hHeld ?_ ?_
       rotate_left
       ·rintro w' ⟨s0,s1,s2,s3,s4,s5⟩
        go_simp
        with_reducible rfl
       rotate_left
       ·simp only[Act.put,List.setIfInBounds_toArray,List.set_cons_zero,List.set_cons_succ,i64_w,i32_w]
        rfl
       refine take_ (i:=4) (N:=some 20) (v:=?_) (a':=?_) #[true,true,true,true,true,false,false] rfl rfl (Z15) (fun _ _ _ h=>h) (Or.inl ⟨by rfl,?_⟩) hHeld ?_ ?_
       rotate_left
       ·rintro w' ⟨s0,s1,s2,s3,s4,s5⟩
        go_simp
        with_reducible rfl
       rotate_left
       ·simp only[Act.put,List.setIfInBounds_toArray,List.set_cons_zero,List.set_cons_succ,i64_w,i32_w]
        rfl
       refine one_ (i:=5) (N:=some 21) (bs 7 63) rfl rfl (Z15) (Z31) (fun K hK=>?_)
       refine goes_ Tryz.func78 (Z15) rfl #[.agg #[.slice A0_0 l0_0.length c0_0,.slice A0_1 l0_1.length c0_1,.slice A0_2 l0_2.length c0_2,.slice A0_3 l0_3.length c0_3,.slice A0_4 l0_4.length c0_4],.int .i64 (rd l1 x6_1)] (by rfl) rfl rfl (Z35) ?_
       with_reducible refine(ligatureref10_Vocab_Mark.calls k1 _ _ l0_0 _ _ l0_1 _ _ l0_2 _ _ l0_3 _ _ l0_4 (rd l1 x6_1) t301 _ ?side1 ?side2 ?side3 ?side4 ?side5 ?side6 ?side7 ?side8 ?side9 ?side10 A6.out).mono ?_
       (case side1=>exact Z46)
       (case side2=>exact HC0_0.out)
       (case side3=>exact Z47)
       (case side4=>exact HC0_1.out)
       (case side5=>exact Z48)
       (case side6=>exact HC0_2.out)
       (case side7=>exact Z49)
       (case side8=>exact HC0_3.out)
       (case side9=>exact Z55)
       (case side10=>exact HC0_4.out)
       rintro e w10 ⟨rfl,hb⟩
       refine⟨_,rfl,?_⟩
       have n0_:=Aside0.mk (Kd.R_below (Z60) hb)
       have n1_:=Aside0.mk (blk_below (g:=gb299) (o:=.cells #[.slice A0_0 l0_0.length c0_0,.slice A0_1 l0_1.length c0_1,.slice A0_2 l0_2.length c0_2,.slice A0_3 l0_3.length c0_3,.slice A0_4 l0_4.length c0_4] 38 (0,0)) (Z58) hb)
       have n2_:=Aside0.mk (below_step (Z59) hb)
       clear HO_5
       clear BK299
       clear HB
       have HO_5:=n0_
       have BK299:=n1_
       have HB:=n2_
       clear n0_ n1_ n2_
       (try clear hb)
       (try clear hb2)
       (try clear hk)
       (try clear hi)
       refine hK.out _ _ ⟨(blk_cell BK299.out 0).trans rfl,(blk_cell BK299.out 1).trans rfl,(blk_cell BK299.out 2).trans rfl,(blk_cell BK299.out 3).trans rfl,(blk_cell BK299.out 4).trans rfl,((HB.out.cell (World.block_lt_of_cell? w _ hw300_0)).trans hw300_0)⟩ (fun hHeld=>?_)
       clear hK K
       refine norm_ (a':=?_) ?_ ?_
       rotate_left
       ·show Act.put _ (some 21) _=_
        simp only[Act.put,List.setIfInBounds_toArray,List.set_cons_zero,List.set_cons_succ,i64_w,i32_w]
        rfl
       refine pI 6 (some 7) (bs 7 127) ?_
       refine done_ (Z15) ?_
       try go_wp2_with (first|((with_reducible refine gate_builtin (b:=.append) (xs:=#[.tmp 24,.tmp 26]) rfl ?_);at_builtin;refine Kd.R_append (Kd.int .i64) (w0:=w) w.heap.size rfl (.tmp 24) (.tmp 26) 41 3 (.int .i64 0) 8 rfl Tryz.underlying41 info3 rfl (Z31) (Z1) u5 x5_1 t301 [.int .i64 t301] (fun _=>True) (fun _=>False) rfl rfl ?aP (fun _ hk=>hk.elim) ?aF ?aO ?aB ?aS ?aL ?_;(case aP=>exact rfl);(case aB=>exact(Z59));(case aF=>exact Z32);(case aO=>exact(Z60));(case aS=>exact(below_size (Z59)));(case aL=>have:=LMc8.out;omega);intro v303 w11 ho hb hg hat;rw[←Ny302.out]at ho;have n0_:=Aside0.mk (blk_grown (g:=gb299) (o:=.cells #[.slice A0_0 l0_0.length c0_0,.slice A0_1 l0_1.length c0_1,.slice A0_2 l0_2.length c0_2,.slice A0_3 l0_3.length c0_3,.slice A0_4 l0_4.length c0_4] 38 (0,0)) (Z58) hg (Kd.R_ne HO_5.out BK299.out (Z31)));have n1_:=Aside0.mk (hb);have n2_:=Aside0.mk (ho);clear BK299;clear HB;clear HO_5;have BK299:=n0_;have HB:=n1_;have HO304:=n2_;clear n0_ n1_ n2_;clear ho hb hg hat))
       go_roundg k1
       case measure=>have:=HK1.out;omega
       case rel=>exact⟨(y302),(wrap64 (x6_1+1)),(Z16),H',⟨Z19⟩,⟨by(with_reducible repeat(first|apply Kd.R_alloc|apply Kd.R_drewN|apply Kd.R_drew));exact HO304.out⟩,⟨Z58⟩,⟨Z59⟩⟩
      ·rw[if_neg c8]at H
       exact absurd H (by simp)
     ·rw[if_neg c7]at H
      have c7b0:=decide_eq_false c7
      clear c7
      by_cases c12:0≤(rd l1 x6_1)
      ·rw[if_pos c12]at H
       have c12b0:=decide_eq_true c12
       clear c12
       by_cases c13:(rd l1 x6_1)<(l0_0.length:Int)
       ·rw[if_pos c13]at H
        have c13b0:=decide_eq_true c13
        clear c13
        have H':=Aside0.mk H
        clear H
        try go_wp2
        have n0_:=Aside0.mk (Kd.R_drew HO_5.out)
        have n1_:=Aside0.mk (blk_drew BK299.out)
        have n2_:=Aside0.mk (below_drew1 HB.out)
        clear HO_5
        clear BK299
        clear HB
        have HO_5:=n0_
        have BK299:=n1_
        have HB:=n2_
        clear n0_ n1_ n2_
        have p300:0≤(x6_1:Int):=of_decide_eq_true (Z18)
        have q300:x6_1<(l1.length:Int):=of_decide_eq_true (Z18)
        obtain⟨ad300,e300,hx300_0⟩:=Kd.at_int HR1.out x6_1 p300 q300
        have hw300_0:=hx300_0
        cases e300
        replace hx300_0:=(HB.out.cell (World.block_lt_of_cell? w _ hx300_0)).trans hx300_0
        replace p300:=eq_true p300
        replace q300:=eq_true q300
        refine start_ (n:=7) (S:=fun w'=>w'.cell? ⟨gb299,0,none⟩=some (.slice A0_0 l0_0.length c0_0)/\w'.cell? ⟨gb299,1,none⟩=some (.slice A0_1 l0_1.length c0_1)/\w'.cell? ⟨gb299,2,none⟩=some (.slice A0_2 l0_2.length c0_2)/\w'.cell? ⟨gb299,3,none⟩=some (.slice A0_3 l0_3.length c0_3)/\w'.cell? ⟨gb299,4,none⟩=some (.slice A0_4 l0_4.length c0_4)/\w'.cell? (ad300.add (x6_1).toNat)=some (.int .i64 (rd l1 x6_1))) (ds:=[]) #[false,false,false,false,false,false,false] (Z15) rfl rfl ⟨(blk_cell BK299.out 0).trans rfl,(blk_cell BK299.out 1).trans rfl,(blk_cell BK299.out 2).trans rfl,(blk_cell BK299.out 3).trans rfl,(blk_cell BK299.out 4).trans rfl,((HB.out.cell (World.block_lt_of_cell? w _ hw300_0)).trans hw300_0)⟩ (fun hHeld=>?_)
        generalize wr.drew=w14 at HO_5 BK299 HB hx300_0 hHeld ⊢
        refine pI 1 (some 17) (bs 7 2) ?_
        refine pI 2 (some 18) (bs 7 6) ?_
        refine pI 3 (some 19) (bs 7 14) ?_
        refine take_ (i:=0) (N:=some 16) (v:=?_) (a':=?_) #[true,true,true,true,false,false,false] rfl rfl (Z15) (fun _ _ _ h=>h) (Or.inl ⟨by rfl,?_⟩) hHeld ?_ ?_
        rotate_left
        ·rintro w' ⟨s0,s1,s2,s3,s4,s5⟩
         go_simp
         with_reducible rfl
        rotate_left
        ·simp only[Act.put,List.setIfInBounds_toArray,List.set_cons_zero,List.set_cons_succ,i64_w,i32_w]
         rfl
        refine take_ (i:=4) (N:=some 20) (v:=?_) (a':=?_) #[true,true,true,true,true,false,false] rfl rfl (Z15) (fun _ _ _ h=>h) (Or.inl ⟨by rfl,?_⟩) hHeld ?_ ?_
        rotate_left
        ·rintro w' ⟨s0,s1,s2,s3,s4,s5⟩
         go_simp
         with_reducible rfl
        rotate_left
        ·simp only[Act.put,List.setIfInBounds_toArray,List.set_cons_zero,List.set_cons_succ,i64_w,i32_w]
         rfl
        refine one_ (i:=5) (N:=some 21) (bs 7 63) rfl rfl (Z15) (Z31) (fun K hK=>?_)
        refine goes_ Tryz.func78 (Z15) rfl #[.agg #[.slice A0_0 l0_0.length c0_0,.slice A0_1 l0_1.length c0_1,.slice A0_2 l0_2.length c0_2,.slice A0_3 l0_3.length c0_3,.slice A0_4 l0_4.length c0_4],.int .i64 (rd l1 x6_1)] (by rfl) rfl rfl (Z35) ?_
        with_reducible refine(ligatureref10_Vocab_Mark.calls k1 _ _ l0_0 _ _ l0_1 _ _ l0_2 _ _ l0_3 _ _ l0_4 (rd l1 x6_1) t301 _ ?side1 ?side2 ?side3 ?side4 ?side5 ?side6 ?side7 ?side8 ?side9 ?side10 A6.out).mono ?_
        (case side1=>exact Z46)
        (case side2=>exact HC0_0.out)
        (case side3=>exact Z47)
        (case side4=>exact HC0_1.out)
        (case side5=>exact Z48)
        (case side6=>exact HC0_2.out)
        (case side7=>exact Z49)
        (case side8=>exact HC0_3.out)
        (case side9=>exact Z55)
        (case side10=>exact HC0_4.out)
        rintro e w15 ⟨rfl,hb⟩
        refine⟨_,rfl,?_⟩
        have n0_:=Aside0.mk (Kd.R_below (Z60) hb)
        have n1_:=Aside0.mk (blk_below (g:=gb299) (o:=.cells #[.slice A0_0 l0_0.length c0_0,.slice A0_1 l0_1.length c0_1,.slice A0_2 l0_2.length c0_2,.slice A0_3 l0_3.length c0_3,.slice A0_4 l0_4.length c0_4] 38 (0,0)) (Z58) hb)
        have n2_:=Aside0.mk (below_step (Z59) hb)
        clear HO_5
        clear BK299
        clear HB
        have HO_5:=n0_
        have BK299:=n1_
        have HB:=n2_
        clear n0_ n1_ n2_
        (try clear hb)
        (try clear hb2)
        (try clear hk)
        (try clear hi)
        refine hK.out _ _ ⟨(blk_cell BK299.out 0).trans rfl,(blk_cell BK299.out 1).trans rfl,(blk_cell BK299.out 2).trans rfl,(blk_cell BK299.out 3).trans rfl,(blk_cell BK299.out 4).trans rfl,((HB.out.cell (World.block_lt_of_cell? w _ hw300_0)).trans hw300_0)⟩ (fun hHeld=>?_)
        clear hK K
        refine norm_ (a':=?_) ?_ ?_
        rotate_left
        ·show Act.put _ (some 21) _=_
         simp only[Act.put,List.setIfInBounds_toArray,List.set_cons_zero,List.set_cons_succ,i64_w,i32_w]
         rfl
        refine pI 6 (some 7) (bs 7 127) ?_
        refine done_ (Z15) ?_
        try go_wp2
        have n0_:=Aside0.mk (Kd.R_drew HO_5.out)
        have n1_:=Aside0.mk (blk_drew BK299.out)
        have n2_:=Aside0.mk (below_drew1 HB.out)
        clear HO_5
        clear BK299
        clear HB
        have HO_5:=n0_
        have BK299:=n1_
        have HB:=n2_
        clear n0_ n1_ n2_
        have p305:0≤(x6_1:Int):=of_decide_eq_true (Z18)
        have q305:x6_1<(l1.length:Int):=of_decide_eq_true (Z18)
        obtain⟨ad305,e305,hx305_0⟩:=Kd.at_int HR1.out x6_1 p305 q305
        have hw305_0:=hx305_0
        obtain rfl:ad300=ad305:=(by injection e305)
        replace hx305_0:=(HB.out.cell (World.block_lt_of_cell? w _ hx305_0)).trans hx305_0
        replace p305:=eq_true p305
        replace q305:=eq_true q305
        have p306:0≤((rd l1 x6_1):Int):=of_decide_eq_true (Z18)
        have q306:(rd l1 x6_1)<(l0_0.length:Int):=of_decide_eq_true (Z18)
        obtain⟨ad306,e306,hx306_0⟩:=Kd.at_string HR0_0.out (rd l1 x6_1) p306 q306
        have hw306_0:=hx306_0
        cases e306
        replace hx306_0:=(HB.out.cell (World.block_lt_of_cell? w _ hx306_0)).trans hx306_0
        replace p306:=eq_true p306
        replace q306:=eq_true q306
        refine start_ (n:=10) (S:=fun w'=>w'.cell? ⟨gb299,0,none⟩=some (.slice (some ad306) l0_0.length c0_0)/\w'.cell? ⟨gb299,1,none⟩=some (.slice A0_1 l0_1.length c0_1)/\w'.cell? ⟨gb299,2,none⟩=some (.slice A0_2 l0_2.length c0_2)/\w'.cell? ⟨gb299,3,none⟩=some (.slice A0_3 l0_3.length c0_3)/\w'.cell? ⟨gb299,4,none⟩=some (.slice A0_4 l0_4.length c0_4)/\w'.cell? (ad300.add (x6_1).toNat)=some (.int .i64 (rd l1 x6_1))/\w'.cell? (ad306.add ((rd l1 x6_1)).toNat)=some (.string (rdOf ByteArray.empty l0_0 (rd l1 x6_1)))) (ds:=[]) #[false,false,false,false,false,false,false,false,false,false] (Z15) rfl rfl ⟨(blk_cell BK299.out 0).trans rfl,(blk_cell BK299.out 1).trans rfl,(blk_cell BK299.out 2).trans rfl,(blk_cell BK299.out 3).trans rfl,(blk_cell BK299.out 4).trans rfl,((HB.out.cell (World.block_lt_of_cell? w _ hw305_0)).trans hw305_0),((HB.out.cell (World.block_lt_of_cell? w _ hw306_0)).trans hw306_0)⟩ (fun hHeld=>?_);refine with_tabW ligatureref10_Vocab_Items.tab8 ligatureref10_Vocab_Items.bits8 (fun HT_ HW_=>?_)
        generalize w15.drew=w16 at HO_5 BK299 HB hx305_0 hx306_0 hHeld ⊢
        refine pure_ (i:=0) (N:=some 28) (v:=?_) (a':=?_) #[true,false,false,false,false,false,false,false,false,false] rfl rfl (any_of HT_.out (Z15)) (fun _ _ _ h=>h) (Or.inl ⟨by rfl,?_⟩) ?_ ?_
        rotate_left
        ·intro w'
         go_simp
         with_reducible rfl
        rotate_left
        ·simp only[Act.put,List.setIfInBounds_toArray,List.set_cons_zero,List.set_cons_succ,i64_w,i32_w]
         rfl
        refine pure_ (i:=1) (N:=some 29) (v:=?_) (a':=?_) #[true,true,false,false,false,false,false,false,false,false] rfl rfl (any_of HT_.out (Z15)) (fun _ _ _ h=>h) (Or.inl ⟨by rfl,?_⟩) ?_ ?_
        rotate_left
        ·intro w'
         go_simp
         with_reducible rfl
        rotate_left
        ·simp only[Act.put,List.setIfInBounds_toArray,List.set_cons_zero,List.set_cons_succ,i64_w,i32_w]
         rfl
        refine pure_ (i:=3) (N:=some 31) (v:=?_) (a':=?_) #[true,true,false,true,false,false,false,false,false,false] rfl rfl (any_of HT_.out (Z15)) (fun _ _ _ h=>h) (Or.inl ⟨by rfl,?_⟩) ?_ ?_
        rotate_left
        ·intro w'
         go_simp
         with_reducible rfl
        rotate_left
        ·simp only[Act.put,List.setIfInBounds_toArray,List.set_cons_zero,List.set_cons_succ,i64_w,i32_w]
         rfl
        refine pure_ (i:=4) (N:=some 32) (v:=?_) (a':=?_) #[true,true,false,true,true,false,false,false,false,false] rfl rfl (any_of HT_.out (Z15)) (fun _ _ _ h=>h) (Or.inl ⟨by rfl,?_⟩) ?_ ?_
        rotate_left
        ·intro w'
         go_simp
         with_reducible rfl
        rotate_left
        ·simp only[Act.put,List.setIfInBounds_toArray,List.set_cons_zero,List.set_cons_succ,i64_w,i32_w]
         rfl
        refine pure_ (i:=5) (N:=some 33) (v:=?_) (a':=?_) #[true,true,false,true,true,true,false,false,false,false] rfl rfl (any_of HT_.out (Z15)) (fun _ _ _ h=>h) (Or.inl ⟨by rfl,?_⟩) ?_ ?_
        rotate_left
        ·intro w'
         go_simp
         with_reducible rfl
        rotate_left
        ·simp only[Act.put,List.setIfInBounds_toArray,List.set_cons_zero,List.set_cons_succ,i64_w,i32_w]
         rfl
        refine take_ (i:=2) (N:=some 30) (v:=?_) (a':=?_) #[true,true,true,true,true,true,false,false,false,false] rfl rfl (take_ofW HT_.out HW_.out (Z15)) (fun _ _ _ h=>h) (Or.inl ⟨by rfl,?_⟩) hHeld ?_ ?_
        rotate_left
        ·rintro w' ⟨s0,s1,s2,s3,s4,s5,s6⟩
         go_simp
         with_reducible rfl
        rotate_left
        ·simp only[Act.put,List.setIfInBounds_toArray,List.set_cons_zero,List.set_cons_succ,i64_w,i32_w]
         rfl
        refine take_ (i:=6) (N:=some 34) (v:=?_) (a':=?_) #[true,true,true,true,true,true,true,false,false,false] rfl rfl (take_ofW HT_.out HW_.out (Z15)) (fun _ _ _ h=>h) (Or.inl ⟨by rfl,?_⟩) hHeld ?_ ?_
        rotate_left
        ·rintro w' ⟨s0,s1,s2,s3,s4,s5,s6⟩
         go_simp
         with_reducible rfl
        rotate_left
        ·simp only[Act.put,List.setIfInBounds_toArray,List.set_cons_zero,List.set_cons_succ,i64_w,i32_w]
         rfl
        refine pure_ (i:=7) (N:=some 35) (v:=?_) (a':=?_) #[true,true,true,true,true,true,true,true,false,false] rfl rfl (any_of HT_.out (Z15)) (fun _ _ _ h=>h) (Or.inl ⟨by rfl,?_⟩) ?_ ?_
        rotate_left
        ·intro w'
         go_simp
         with_reducible rfl
        rotate_left
        ·simp only[Act.put,List.setIfInBounds_toArray,List.set_cons_zero,List.set_cons_succ,i64_w,i32_w]
         rfl
        refine take_ (i:=8) (N:=some 36) (v:=?_) (a':=?_) #[true,true,true,true,true,true,true,true,true,false] rfl rfl (take_ofW HT_.out HW_.out (Z15)) (fun _ _ _ h=>h) (Or.inl ⟨by rfl,?_⟩) hHeld ?_ ?_
        rotate_left
        ·rintro w' ⟨s0,s1,s2,s3,s4,s5,s6⟩
         go_simp
         with_reducible rfl
        rotate_left
        ·simp only[Act.put,List.setIfInBounds_toArray,List.set_cons_zero,List.set_cons_succ,i64_w,i32_w]
         rfl
        refine pure_ (i:=9) (N:=some 8) (v:=?_) (a':=?_) #[true,true,true,true,true,true,true,true,true,true] rfl rfl (any_of HT_.out (Z15)) (fun _ _ _ h=>h) (Or.inl ⟨by rfl,?_⟩) ?_ ?_
        rotate_left
        ·intro w'
         go_simp
         with_reducible rfl
        rotate_left
        ·simp only[Act.put,List.setIfInBounds_toArray,List.set_cons_zero,List.set_cons_succ,i64_w,i32_w]
         rfl
        refine done_ (done_of HT_.out (Z15)) ?_
        try go_wp2
        go_loopg [5,9] k1 (fun kq v5 v9 w'=>∃ (x5_2:List Int) (x9_2:Int),v9=.int .i64 x9_2/\Aside0 (ligatureref10_Vocab_Items.l1 kq l1 x5_2 x6_1 (rdOf ByteArray.empty l0_0 (rd l1 x6_1)) x9_2 l0_0 l0_1 l0_2 l0_3 l0_4=some r)/\Aside0 (kq≤k1)/\Aside0 (Kd.R (Kd.int .i64) 3 w' w.heap.size (fun _=>True) v5 x5_2)/\Aside0 (w'.heap[gb299]?=some (.cells #[(.slice (some ad306) l0_0.length c0_0),(.slice A0_1 l0_1.length c0_1),(.slice A0_2 l0_2.length c0_2),(.slice A0_3 l0_3.length c0_3),(.slice A0_4 l0_4.length c0_4)] 38 (0,0)))/\Aside0 (Below w.heap.size w w'))
        case atStart=>exact⟨(x5_1),(0),(Z16),H',⟨Nat.le_refl _⟩,⟨Z60⟩,⟨Z58⟩,⟨Z59⟩⟩
        case round =>
         clear H'
         try clear c1
         try clear p2
         try clear c3
         try clear p3
         try clear q3
         try clear hx3
         try clear c4
         try clear c4b0
         try clear c5
         try clear c5b0
         try clear p6
         try clear c7
         try clear c7b0
         try clear c8
         try clear c12
         try clear c12b0
         try clear c13
         try clear c13b0
         try clear hx300_0
         try clear hx305_0
         try clear hx306_0
         try clear p2
         try clear p300
         try clear p305
         try clear p306
         try clear q300
         try clear q305
         try clear q306
         obtain⟨x5_2,x9_2,rfl,HA,HK2,HO_5,BK299,HB⟩:=hrel
         cases gk with
         | zero=>exact absurd HA.out (by simp[ligatureref10_Vocab_Items.l1])
         | succ k2 =>
          have H:=HA.out
          clear HA
          simp only[ligatureref10_Vocab_Items.l1]at H
          by_cases c17:x9_2<((rdOf ByteArray.empty l0_0 (rd l1 x6_1)).size:Int)
          ·rw[if_pos c17]at H
           have c17b0:=decide_eq_true c17
           clear c17
           by_cases c18:0≤x9_2
           ·rw[if_pos c18]at H
            have c18b0:=decide_eq_true c18
            clear c18
            by_cases c20:x5_2.length<17592186044416
            ·rw[if_pos c20]at H
             have LMc20:=Aside0.mk c20
             clear c20
             obtain⟨y307,hy307⟩:∃ y_:List Int,y_=(x5_2++[wrap64 (bt (rdOf ByteArray.empty l0_0 (rd l1 x6_1)) x9_2)]):=⟨_,rfl⟩
             replace H:(ligatureref10_Vocab_Items.l1 k2 l1 y307 x6_1 (rdOf ByteArray.empty l0_0 (rd l1 x6_1)) (wrap64 (x9_2+1)) l0_0 l0_1 l0_2 l0_3 l0_4)=some r:=by first|(rw[hy307];with_reducible exact H)|(have H2_:=(Option.bind_some _ _).symm.trans H;rw[hy307];with_reducible exact H2_)|(have H2_:=(Option.bind_some _ _).symm.trans H;with_reducible exact H2_)|with_reducible exact H|(rw[hy307];exact H)|exact H
             have Ny307:=Aside0.mk hy307
             clear hy307
             have H':=Aside0.mk H
             clear H
             have p19:0≤(x9_2:Int):=of_decide_eq_true (Z18)
             have q19:x9_2<((rdOf ByteArray.empty l0_0 (rd l1 x6_1)).size:Int):=of_decide_eq_true (Z18)
             have hx19:=bt_at (rdOf ByteArray.empty l0_0 (rd l1 x6_1)) x9_2
             replace p19:=eq_true p19
             replace q19:=eq_true q19
             go_wp2_with (first|((with_reducible refine gate_builtin (b:=.append) (xs:=#[.tmp 43,.tmp 48]) rfl ?_);at_builtin;refine Kd.R_append (Kd.int .i64) (w0:=w) w.heap.size rfl (.tmp 43) (.tmp 48) 41 3 (.int .i64 0) 8 rfl Tryz.underlying41 info3 rfl (Z31) (Z1) u5 x5_2 (wrap64 (bt (rdOf ByteArray.empty l0_0 (rd l1 x6_1)) x9_2)) [.int .i64 (wrap64 (bt (rdOf ByteArray.empty l0_0 (rd l1 x6_1)) x9_2))] (fun _=>True) (fun _=>False) rfl rfl ?aP (fun _ hk=>hk.elim) ?aF ?aO ?aB ?aS ?aL ?_;(case aP=>exact rfl);(case aB=>exact(Z59));(case aF=>exact Z32);(case aO=>exact(Z60));(case aS=>exact(below_size (Z59)));(case aL=>have:=LMc20.out;omega);intro v308 w21 ho hb hg hat;rw[←Ny307.out]at ho;have n0_:=Aside0.mk (blk_grown (g:=gb299) (o:=.cells #[.slice (some ad306) l0_0.length c0_0,.slice A0_1 l0_1.length c0_1,.slice A0_2 l0_2.length c0_2,.slice A0_3 l0_3.length c0_3,.slice A0_4 l0_4.length c0_4] 38 (0,0)) (Z58) hg (Kd.R_ne HO_5.out BK299.out (Z31)));have n1_:=Aside0.mk (hb);have n2_:=Aside0.mk (ho);clear BK299;clear HB;clear HO_5;have BK299:=n0_;have HB:=n1_;have HO309:=n2_;clear n0_ n1_ n2_;clear ho hb hg hat))
             go_roundg k2
             case measure=>have:=HK1.out;have:=HK2.out;omega
             case rel=>exact⟨(y307),(wrap64 (x9_2+1)),(Z16),H',⟨by have:=HK1.out;have:=HK2.out;omega⟩,⟨by(with_reducible repeat(first|apply Kd.R_alloc|apply Kd.R_drewN|apply Kd.R_drew));exact HO309.out⟩,⟨Z58⟩,⟨Z59⟩⟩
            ·rw[if_neg c20]at H
             exact absurd H (by simp)
           ·rw[if_neg c18]at H
            exact absurd H (by simp)
          ·rw[if_neg c17]at H
           have c17b0:=decide_eq_false c17
           clear c17
           have H':=Aside0.mk H
           clear H
           go_wp2
           go_roundg k2
           case measure=>have:=HK1.out;have:=HK2.out;omega
           case rel=>exact⟨(x5_2),(wrap64 (x6_1+1)),(Z16),H',⟨by have:=HK1.out;have:=HK2.out;omega⟩,⟨Z60⟩,⟨Z58⟩,⟨Z59⟩⟩
       ·rw[if_neg c13]at H
        exact absurd H (by simp)
      ·rw[if_neg c12]at H
       exact absurd H (by simp)
    ·rw[if_neg c5]at H
     exact absurd H (by simp)
   ·rw[if_neg c4]at H
    have c4b0:=decide_eq_false c4
    clear c4
    obtain rfl:=Option.some.inj H
    go_wp2
    go_ret
    exact⟨_,Z21,Z60,Z59⟩
end Go.Proofs.YtkffhgiiejbnaaaGreat.Rf
namespace Go.Proofs.YtkffhgiiejbnaaaGreat.Rf
open Go.RowKit YtkffhgiiejbnaaaGreatW.PrintWords YtkffhgiiejbnaaaGreatW.PrintLast YtkffhgiiejbnaaaGreatW.PrintMore
attribute [local go_sem] max2_int min2_int max_two min_two max_three min_three max_four min_four
def ligatureref08_Table_Cuts.T1:Bool × List (List Nat × List Nat):=(true,[([],[]),([],[]),([0,1],[0,1]),([],[]),([],[]),([3,4,2],[3,4]),([2,5,0,1,2],[2]),([5,6,0,1,2,3,4,5,6],[5])])
def ligatureref08_Table_Cuts.B1:List Nat:=[0,0,3,0,0,31,63,127]
end Go.Proofs.YtkffhgiiejbnaaaGreat.Rf
