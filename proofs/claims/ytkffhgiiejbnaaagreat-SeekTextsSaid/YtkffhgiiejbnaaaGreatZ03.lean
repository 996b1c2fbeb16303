import Derived.Test.YtkffhgiiejbnaaaGreatZ01
set_option maxRecDepth 100000
set_option maxHeartbeats 8000000
set_option linter.unusedVariables false
set_option linter.unusedSimpArgs false
namespace Go.Proofs.YtkffhgiiejbnaaaGreat.Rf
open Go.RowKit YtkffhgiiejbnaaaGreatW.PrintWords YtkffhgiiejbnaaaGreatW.PrintLast YtkffhgiiejbnaaaGreatW.PrintMore
attribute [local go_sem] max2_int min2_int max_two min_two max_three min_three max_four min_four
def ligatureref08_Table_Class.l0:Nat->Int->Int->List (S165)->List (S108)->Option (Int)
 | 0,_,_,_,_=>none
 | k+1,x1,x5,x305000,x305001=>if x5 ≥ 0 then (if 0≤x5 then (if x5<(x305000.length:Int) then (if (wrap64 (x1)) ≥ ((rd_T165 x305000 x5).f0) then (if (wrap64 (x1))≤((rd_T165 x305000 x5).f1) then (some ((rd_T165 x305000 x5).f2)) else (ligatureref08_Table_Class.l0 k x1 (wrap64 (x5-1)) x305000 x305001)) else (ligatureref08_Table_Class.l0 k x1 (wrap64 (x5-1)) x305000 x305001)) else (none)) else (none)) else (some 0)
def ligatureref08_Table_Class.f (k:Nat) (l0_0:List (S165)) (l0_1:List (S108)) (a1:Int):Option (Int):=ligatureref08_Table_Class.l0 k a1 (wrap64 ((l0_0.length:Int)-1)) l0_0 l0_1
theorem ligatureref08_Table_Class.calls (k:Nat) (A0_0:Option Addr) (c0_0:Nat) (l0_0:List (S165)) (A0_1:Option Addr) (c0_1:Nat) (l0_1:List (S108)) (a1:Int) (r:Int) (w:World) (hr0_0:Kd.C k165 w A0_0 l0_0.length l0_0) (hc0_0:l0_0.length≤c0_0) (hr0_1:Kd.C k108 w A0_1 l0_1.length l0_1) (hc0_1:l0_1.length≤c0_1) (h:ligatureref08_Table_Class.f k l0_0 l0_1 a1=some r) :
  Calls Tryz.prog 62 #[.agg #[.slice A0_0 l0_0.length c0_0,.slice A0_1 l0_1.length c0_1],.int .u8 a1] w fun e w'=>e=.returned (.int .i64 r)/\Below w.heap.size w w':=by
 have hu36:=Tryz.underlying36
 have HR0_0:=Aside0.mk hr0_0
 have HC0_0:=Aside0.mk hc0_0
 clear hr0_0 hc0_0
 have HR0_1:=Aside0.mk hr0_1
 have HC0_1:=Aside0.mk hc0_1
 clear hr0_1 hc0_1
 have HB:=Aside0.mk (Below.refl w.heap.size w)
 have H:(ligatureref08_Table_Class.l0 k a1 (wrap64 ((l0_0.length:Int)-1)) l0_0 l0_1)=some r:=h
 clear h
 have H':=Aside0.mk H
 clear H
 go_enter Tryz.func62,Tryz.ntmps62
 go_wp2_with (first|((with_reducible refine gate_dst (N:=2) rfl ?_);refine bxE 2 (#[.slice A0_0 l0_0.length c0_0,.slice A0_1 l0_1.length c0_1]) 36 ?_;intro gb304 hg w3 hbox hb;have BK304:=Aside0.mk (hbox);have GW304:=Aside0.mk ((Z178:w.heap.size≤gb304));have GE304:=GW304;replace HB:=Aside0.mk (below_step (Z21) hb);clear hb hbox hg;have hcz4_0:w3.cell? ⟨gb304,0,none⟩=some (.slice A0_0 l0_0.length c0_0):=(blk_cell BK304.out 0).trans rfl;have hcz4_1:w3.cell? ⟨gb304,1,none⟩=some (.slice A0_1 l0_1.length c0_1):=(blk_cell BK304.out 1).trans rfl;have hfz4_0:=blk_frozen BK304.out 0;have hfz4_1:=blk_frozen BK304.out 1))
 go_loopg [5] k (fun kq v5 w'=>∃ (x5_1:Int),v5=.int .i64 x5_1/\Aside0 (ligatureref08_Table_Class.l0 kq a1 x5_1 l0_0 l0_1=some r)/\Aside0 (kq≤k)/\Aside0 (w'.heap[gb304]?=some (.cells #[(.slice A0_0 l0_0.length c0_0),(.slice A0_1 l0_1.length c0_1)] 36 (0,0)))/\Aside0 (Below w.heap.size w w'))
 case atStart=>exact⟨(wrap64 ((l0_0.length:Int)-1)),(Z17),H',⟨Nat.le_refl _⟩,⟨Z58⟩,⟨Z59⟩⟩
 case round =>
  clear H'
  try clear p2
  try clear hcz4_0
  try clear hcz4_1
  try clear hfz4_0
  try clear hfz4_1
  obtain⟨x5_1,rfl,HA,HK1,BK304,HB⟩:=hrel
  cases gk with
  | zero=>exact absurd HA.out (by simp[ligatureref08_Table_Class.l0])
  | succ k1 =>
   have H:=HA.out
   clear HA
   simp only[ligatureref08_Table_Class.l0]at H
   by_cases c5:x5_1 ≥ 0
   ·rw[if_pos c5]at H
    have c5b0:decide (0≤x5_1)=true:=decide_eq_true c5
    clear c5
    by_cases c6:0≤x5_1
    ·rw[if_pos c6]at H
     have c6b0:=decide_eq_true c6
     clear c6
     by_cases c7:x5_1<(l0_0.length:Int)
     ·rw[if_pos c7]at H
      have c7b0:=decide_eq_true c7
      clear c7
      by_cases c8:(wrap64 (a1)) ≥ ((rd_T165 l0_0 x5_1).f0)
      ·rw[if_pos c8]at H
       have c8b0:decide (((rd_T165 l0_0 x5_1).f0)≤(wrap64 (a1)))=true:=decide_eq_true c8
       clear c8
       by_cases c9:(wrap64 (a1))≤((rd_T165 l0_0 x5_1).f1)
       ·rw[if_pos c9]at H
        have c9b0:=decide_eq_true c9
        clear c9
        obtain rfl:=Option.some.inj H
        have hcz10_0:wr.cell? ⟨gb304,0,none⟩=some (.slice A0_0 l0_0.length c0_0):=(blk_cell BK304.out 0).trans rfl
        have hcz10_1:wr.cell? ⟨gb304,1,none⟩=some (.slice A0_1 l0_1.length c0_1):=(blk_cell BK304.out 1).trans rfl
        have hfz10_0:=blk_frozen BK304.out 0
        have hfz10_1:=blk_frozen BK304.out 1
        have p305:0≤(x5_1:Int):=of_decide_eq_true (Z19)
        have q305:x5_1<(l0_0.length:Int):=of_decide_eq_true (Z19)
        obtain⟨ad305,e305,hx305_0,hx305_1,hx305_2⟩:=at_T165 HR0_0.out x5_1 p305 q305
        cases e305
        replace hx305_0:=(HB.out.cell (World.block_lt_of_cell? w _ hx305_0)).trans hx305_0
        replace hx305_1:=(HB.out.cell (World.block_lt_of_cell? w _ hx305_1)).trans hx305_1
        replace hx305_2:=(HB.out.cell (World.block_lt_of_cell? w _ hx305_2)).trans hx305_2
        replace p305:=eq_true p305
        replace q305:=eq_true q305
        have p306:0≤(x5_1:Int):=of_decide_eq_true (Z19)
        have q306:x5_1<(l0_0.length:Int):=of_decide_eq_true (Z19)
        obtain⟨ad306,e306,hx306_0,hx306_1,hx306_2⟩:=at_T165 HR0_0.out x5_1 p306 q306
        obtain rfl:ad305=ad306:=(by injection e306)
        replace hx306_0:=(HB.out.cell (World.block_lt_of_cell? w _ hx306_0)).trans hx306_0
        replace hx306_1:=(HB.out.cell (World.block_lt_of_cell? w _ hx306_1)).trans hx306_1
        replace hx306_2:=(HB.out.cell (World.block_lt_of_cell? w _ hx306_2)).trans hx306_2
        replace p306:=eq_true p306
        replace q306:=eq_true q306
        have p307:0≤(x5_1:Int):=of_decide_eq_true (Z19)
        have q307:x5_1<(l0_0.length:Int):=of_decide_eq_true (Z19)
        obtain⟨ad307,e307,hx307_0,hx307_1,hx307_2⟩:=at_T165 HR0_0.out x5_1 p307 q307
        obtain rfl:ad305=ad307:=(by injection e307)
        replace hx307_0:=(HB.out.cell (World.block_lt_of_cell? w _ hx307_0)).trans hx307_0
        replace hx307_1:=(HB.out.cell (World.block_lt_of_cell? w _ hx307_1)).trans hx307_1
        replace hx307_2:=(HB.out.cell (World.block_lt_of_cell? w _ hx307_2)).trans hx307_2
        replace p307:=eq_true p307
        replace q307:=eq_true q307
        go_wp2
        go_ret
        exact⟨Z22,Z59⟩
       ·rw[if_neg c9]at H
        have c9b0:=decide_eq_false c9
        clear c9
        have H':=Aside0.mk H
        clear H
        have hcz11_0:wr.cell? ⟨gb304,0,none⟩=some (.slice A0_0 l0_0.length c0_0):=(blk_cell BK304.out 0).trans rfl
        have hcz11_1:wr.cell? ⟨gb304,1,none⟩=some (.slice A0_1 l0_1.length c0_1):=(blk_cell BK304.out 1).trans rfl
        have hfz11_0:=blk_frozen BK304.out 0
        have hfz11_1:=blk_frozen BK304.out 1
        have p305:0≤(x5_1:Int):=of_decide_eq_true (Z19)
        have q305:x5_1<(l0_0.length:Int):=of_decide_eq_true (Z19)
        obtain⟨ad305,e305,hx305_0,hx305_1,hx305_2⟩:=at_T165 HR0_0.out x5_1 p305 q305
        cases e305
        replace hx305_0:=(HB.out.cell (World.block_lt_of_cell? w _ hx305_0)).trans hx305_0
        replace hx305_1:=(HB.out.cell (World.block_lt_of_cell? w _ hx305_1)).trans hx305_1
        replace hx305_2:=(HB.out.cell (World.block_lt_of_cell? w _ hx305_2)).trans hx305_2
        replace p305:=eq_true p305
        replace q305:=eq_true q305
        have p306:0≤(x5_1:Int):=of_decide_eq_true (Z19)
        have q306:x5_1<(l0_0.length:Int):=of_decide_eq_true (Z19)
        obtain⟨ad306,e306,hx306_0,hx306_1,hx306_2⟩:=at_T165 HR0_0.out x5_1 p306 q306
        obtain rfl:ad305=ad306:=(by injection e306)
        replace hx306_0:=(HB.out.cell (World.block_lt_of_cell? w _ hx306_0)).trans hx306_0
        replace hx306_1:=(HB.out.cell (World.block_lt_of_cell? w _ hx306_1)).trans hx306_1
        replace hx306_2:=(HB.out.cell (World.block_lt_of_cell? w _ hx306_2)).trans hx306_2
        replace p306:=eq_true p306
        replace q306:=eq_true q306
        go_wp2
        go_roundg k1
        case measure=>have:=HK1.out;omega
        case rel=>exact⟨(wrap64 (x5_1-1)),(Z17),H',⟨Z20⟩,⟨Z58⟩,⟨Z59⟩⟩
      ·rw[if_neg c8]at H
       have c8b0:decide (((rd_T165 l0_0 x5_1).f0)≤(wrap64 (a1)))=false:=decide_eq_false c8
       clear c8
       have H':=Aside0.mk H
       clear H
       have hcz12_0:wr.cell? ⟨gb304,0,none⟩=some (.slice A0_0 l0_0.length c0_0):=(blk_cell BK304.out 0).trans rfl
       have hcz12_1:wr.cell? ⟨gb304,1,none⟩=some (.slice A0_1 l0_1.length c0_1):=(blk_cell BK304.out 1).trans rfl
       have hfz12_0:=blk_frozen BK304.out 0
       have hfz12_1:=blk_frozen BK304.out 1
       have p305:0≤(x5_1:Int):=of_decide_eq_true (Z19)
       have q305:x5_1<(l0_0.length:Int):=of_decide_eq_true (Z19)
       obtain⟨ad305,e305,hx305_0,hx305_1,hx305_2⟩:=at_T165 HR0_0.out x5_1 p305 q305
       cases e305
       replace hx305_0:=(HB.out.cell (World.block_lt_of_cell? w _ hx305_0)).trans hx305_0
       replace hx305_1:=(HB.out.cell (World.block_lt_of_cell? w _ hx305_1)).trans hx305_1
       replace hx305_2:=(HB.out.cell (World.block_lt_of_cell? w _ hx305_2)).trans hx305_2
       replace p305:=eq_true p305
       replace q305:=eq_true q305
       go_wp2
       go_roundg k1
       case measure=>have:=HK1.out;omega
       case rel=>exact⟨(wrap64 (x5_1-1)),(Z17),H',⟨Z20⟩,⟨Z58⟩,⟨Z59⟩⟩
     ·rw[if_neg c7]at H
      exact absurd H (by simp)
    ·rw[if_neg c6]at H
     exact absurd H (by simp)
   ·rw[if_neg c5]at H
    have c5b0:decide (0≤x5_1)=false:=decide_eq_false c5
    clear c5
    obtain rfl:=Option.some.inj H
    go_wp2
    go_ret
    exact⟨Z22,Z59⟩
end Go.Proofs.YtkffhgiiejbnaaaGreat.Rf
namespace Go.Proofs.YtkffhgiiejbnaaaGreat.Rf
open Go.RowKit YtkffhgiiejbnaaaGreatW.PrintWords YtkffhgiiejbnaaaGreatW.PrintLast YtkffhgiiejbnaaaGreatW.PrintMore
attribute [local go_sem] max2_int min2_int max_two min_two max_three min_three max_four min_four
def ligatureref08_Table_Cuts.l0:Nat->Int->Int->Int->List (S165)->List (S108)->Option (Bool)
 | 0,_,_,_,_,_=>none
 | k+1,x7,x8,x9,x309000,x309001=>if x9<(x309001.length:Int) then (if 0≤x9 then (if ((rd_T108 x309001 x9).f0)=x7 then (if ((rd_T108 x309001 x9).f1)=x8 then (some false) else (ligatureref08_Table_Cuts.l0 k x7 x8 (wrap64 (x9+1)) x309000 x309001)) else (ligatureref08_Table_Cuts.l0 k x7 x8 (wrap64 (x9+1)) x309000 x309001)) else (none)) else (some (x7 != x8))
def ligatureref08_Table_Cuts.f (k:Nat) (l0_0:List (S165)) (l0_1:List (S108)) (a1:Int) (a2:Int):Option (Bool):=(ligatureref08_Table_Class.f k l0_0 l0_1 a1).bind fun t309=>((ligatureref08_Table_Class.f k l0_0 l0_1 a2).bind fun t310=>(ligatureref08_Table_Cuts.l0 k t309 t310 0 l0_0 l0_1))
def ligatureref08_Table_Cuts.T1:Bool × List (List Nat × List Nat):=(true,[([],[]),([],[]),([0,1],[0,1]),([],[]),([],[]),([3,4,2],[3,4]),([2,5,0,1,2],[2]),([5,6,0,1,2,3,4,5,6],[5])])
def ligatureref08_Table_Cuts.B1:List Nat:=[0,0,3,0,0,31,63,127]
theorem ligatureref08_Table_Cuts.tab1:rtab .any (opsOf Tryz.f19 1)=ligatureref08_Table_Cuts.T1:=Z16
theorem ligatureref08_Table_Cuts.bits1:waitsOk ligatureref08_Table_Cuts.T1.2 ligatureref08_Table_Cuts.B1=true:=Z16
theorem ligatureref08_Table_Cuts.calls (k:Nat) (A0_0:Option Addr) (c0_0:Nat) (l0_0:List (S165)) (A0_1:Option Addr) (c0_1:Nat) (l0_1:List (S108)) (a1:Int) (a2:Int) (r:Bool) (w:World) (hr0_0:Kd.C k165 w A0_0 l0_0.length l0_0) (hc0_0:l0_0.length≤c0_0) (hr0_1:Kd.C k108 w A0_1 l0_1.length l0_1) (hc0_1:l0_1.length≤c0_1) (h:ligatureref08_Table_Cuts.f k l0_0 l0_1 a1 a2=some r) :
  Calls Tryz.prog 19 #[.agg #[.slice A0_0 l0_0.length c0_0,.slice A0_1 l0_1.length c0_1],.int .u8 a1,.int .u8 a2] w fun e w'=>e=.returned (.bool r)/\Below w.heap.size w w':=by
 have hu36:=Tryz.underlying36
 have HR0_0:=Aside0.mk hr0_0
 have HC0_0:=Aside0.mk hc0_0
 clear hr0_0 hc0_0
 have HR0_1:=Aside0.mk hr0_1
 have HC0_1:=Aside0.mk hc0_1
 clear hr0_1 hc0_1
 have HB:=Aside0.mk (Below.refl w.heap.size w)
 have H:((ligatureref08_Table_Class.f k l0_0 l0_1 a1).bind fun t309=>((ligatureref08_Table_Class.f k l0_0 l0_1 a2).bind fun t310=>(ligatureref08_Table_Cuts.l0 k t309 t310 0 l0_0 l0_1)))=some r:=h
 clear h
 replace H:=Option.bind_eq_some_iff.mp H
 obtain⟨t309,A40,H⟩:=H
 replace H:((ligatureref08_Table_Class.f k l0_0 l0_1 a2).bind fun t310=>(ligatureref08_Table_Cuts.l0 k t309 t310 0 l0_0 l0_1))=some r:=H
 have A4:=Aside0.mk A40
 clear A40
 replace H:=Option.bind_eq_some_iff.mp H
 obtain⟨t310,A50,H⟩:=H
 replace H:(ligatureref08_Table_Cuts.l0 k t309 t310 0 l0_0 l0_1)=some r:=H
 have A5:=Aside0.mk A50
 clear A50
 have H':=Aside0.mk H
 clear H
 go_enter Tryz.func19,Tryz.ntmps19
 try go_wp2_with (first|((with_reducible refine gate_dst (N:=3) rfl ?_);refine bxE 3 (#[.slice A0_0 l0_0.length c0_0,.slice A0_1 l0_1.length c0_1]) 36 ?_;intro gb308 hg w6 hbox hb;have BK308:=Aside0.mk (hbox);have GW308:=Aside0.mk ((Z178:w.heap.size≤gb308));have GE308:=GW308;replace HB:=Aside0.mk (below_step (Z21) hb);clear hb hbox hg))
 have n0_:=Aside0.mk (blk_drew BK308.out)
 have n1_:=Aside0.mk (below_drew1 HB.out)
 clear BK308
 clear HB
 have BK308:=n0_
 have HB:=n1_
 clear n0_ n1_
 refine start_ (n:=8) (S:=fun w'=>w'.cell? ⟨gb308,0,none⟩=some (.slice A0_0 l0_0.length c0_0)/\w'.cell? ⟨gb308,1,none⟩=some (.slice A0_1 l0_1.length c0_1)) (ds:=[]) #[false,false,false,false,false,false,false,false] (Z16) rfl rfl ⟨(blk_cell BK308.out 0).trans rfl,(blk_cell BK308.out 1).trans rfl⟩ (fun hHeld=>?_);refine with_tabW ligatureref08_Table_Cuts.tab1 ligatureref08_Table_Cuts.bits1 (fun HT_ HW_=>?_)
 generalize w6.drew=w7 at BK308 HB hHeld ⊢
 refine pure_ (i:=1) (N:=some 11) (v:=?_) (a':=?_) #[false,true,false,false,false,false,false,false] rfl rfl (any_of HT_.out (Z16)) (fun _ _ _ h=>h) (Or.inl ⟨by rfl,?_⟩) ?_ ?_
 rotate_left
 ·intro w'
  go_simp
  with_reducible rfl
 rotate_left
 ·simp only[Act.put,List.setIfInBounds_toArray,List.set_cons_zero,List.set_cons_succ,i64_w,i32_w]
  rfl
 refine pure_ (i:=4) (N:=some 14) (v:=?_) (a':=?_) #[false,true,false,false,true,false,false,false] rfl rfl (any_of HT_.out (Z16)) (fun _ _ _ h=>h) (Or.inl ⟨by rfl,?_⟩) ?_ ?_
 rotate_left
 ·intro w'
  go_simp
  with_reducible rfl
 rotate_left
 ·simp only[Act.put,List.setIfInBounds_toArray,List.set_cons_zero,List.set_cons_succ,i64_w,i32_w]
  rfl
 refine take_ (i:=0) (N:=some 10) (v:=?_) (a':=?_) #[true,true,false,false,true,false,false,false] rfl rfl (take_ofW HT_.out HW_.out (Z16)) (fun _ _ _ h=>h) (Or.inl ⟨by rfl,?_⟩) hHeld ?_ ?_
 rotate_left
 ·rintro w' ⟨s0,s1⟩
  go_simp
  with_reducible rfl
 rotate_left
 ·simp only[Act.put,List.setIfInBounds_toArray,List.set_cons_zero,List.set_cons_succ,i64_w,i32_w]
  rfl
 refine take_ (i:=3) (N:=some 13) (v:=?_) (a':=?_) #[true,true,false,true,true,false,false,false] rfl rfl (take_ofW HT_.out HW_.out (Z16)) (fun _ _ _ h=>h) (Or.inl ⟨by rfl,?_⟩) hHeld ?_ ?_
 rotate_left
 ·rintro w' ⟨s0,s1⟩
  go_simp
  with_reducible rfl
 rotate_left
 ·simp only[Act.put,List.setIfInBounds_toArray,List.set_cons_zero,List.set_cons_succ,i64_w,i32_w]
  rfl
 refine one_ (i:=2) (N:=some 12) (bs 8 31) rfl rfl (one_of HT_.out (Z16)) (Z32) (fun K hK=>?_)
 refine goes_ Tryz.func62 (Z16) rfl #[.agg #[.slice A0_0 l0_0.length c0_0,.slice A0_1 l0_1.length c0_1],.int .u8 a1] (by rfl) rfl rfl (Z37) ?_
 with_reducible refine(ligatureref08_Table_Class.calls k _ _ l0_0 _ _ l0_1 a1 t309 _ ?side1 ?side2 ?side3 ?side4 A4.out).mono ?_
 (case side1=>exact Z56)
 (case side2=>exact HC0_0.out)
 (case side3=>exact Z57)
 (case side4=>exact HC0_1.out)
 rintro e w8 ⟨rfl,hb⟩
 refine⟨_,rfl,?_⟩
 have n0_:=Aside0.mk (blk_below (g:=gb308) (o:=.cells #[.slice A0_0 l0_0.length c0_0,.slice A0_1 l0_1.length c0_1] 36 (0,0)) (Z60) hb)
 have n1_:=Aside0.mk (below_step (Z61) hb)
 clear BK308
 clear HB
 have BK308:=n0_
 have HB:=n1_
 clear n0_ n1_
 (try clear hb)
 (try clear hb2)
 (try clear hk)
 (try clear hi)
 refine hK.out _ _ ⟨(blk_cell BK308.out 0).trans rfl,(blk_cell BK308.out 1).trans rfl⟩ (fun hHeld=>?_)
 clear hK K
 refine norm_ (a':=?_) ?_ ?_
 rotate_left
 ·show Act.put _ (some 12) _=_
  simp only[Act.put,List.setIfInBounds_toArray,List.set_cons_zero,List.set_cons_succ,i64_w,i32_w]
  rfl
 refine one_ (i:=5) (N:=some 15) (bs 8 63) rfl rfl (one_of HT_.out (Z16)) (Z32) (fun K hK=>?_)
 refine goes_ Tryz.func62 (Z16) rfl #[.agg #[.slice A0_0 l0_0.length c0_0,.slice A0_1 l0_1.length c0_1],.int .u8 a2] (by rfl) rfl rfl (Z37) ?_
 with_reducible refine(ligatureref08_Table_Class.calls k _ _ l0_0 _ _ l0_1 a2 t310 _ ?side1 ?side2 ?side3 ?side4 A5.out).mono ?_
 (case side1=>exact Z56)
 (case side2=>exact HC0_0.out)
 (case side3=>exact Z57)
 (case side4=>exact HC0_1.out)
 rintro e w9 ⟨rfl,hb⟩
 refine⟨_,rfl,?_⟩
 have n0_:=Aside0.mk (blk_below (g:=gb308) (o:=.cells #[.slice A0_0 l0_0.length c0_0,.slice A0_1 l0_1.length c0_1] 36 (0,0)) (Z60) hb)
 have n1_:=Aside0.mk (below_step (Z61) hb)
 clear BK308
 clear HB
 have BK308:=n0_
 have HB:=n1_
 clear n0_ n1_
 (try clear hb)
 (try clear hb2)
 (try clear hk)
 (try clear hi)
 refine hK.out _ _ ⟨(blk_cell BK308.out 0).trans rfl,(blk_cell BK308.out 1).trans rfl⟩ (fun hHeld=>?_)
 clear hK K
 refine norm_ (a':=?_) ?_ ?_
 rotate_left
 ·show Act.put _ (some 15) _=_
  simp only[Act.put,List.setIfInBounds_toArray,List.set_cons_zero,List.set_cons_succ,i64_w,i32_w]
  rfl
 refine pure_ (i:=6) (N:=some 7) (v:=?_) (a':=?_) #[true,true,true,true,true,true,true,false] rfl rfl (any_of HT_.out (Z16)) (fun _ _ _ h=>h) (Or.inl ⟨by rfl,?_⟩) ?_ ?_
 rotate_left
 ·intro w'
  go_simp
  with_reducible rfl
 rotate_left
 ·simp only[Act.put,List.setIfInBounds_toArray,List.set_cons_zero,List.set_cons_succ,i64_w,i32_w]
  rfl
 refine pure_ (i:=7) (N:=some 8) (v:=?_) (a':=?_) #[true,true,true,true,true,true,true,true] rfl rfl (any_of HT_.out (Z16)) (fun _ _ _ h=>h) (Or.inl ⟨by rfl,?_⟩) ?_ ?_
 rotate_left
 ·intro w'
  go_simp
  with_reducible rfl
 rotate_left
 ·simp only[Act.put,List.setIfInBounds_toArray,List.set_cons_zero,List.set_cons_succ,i64_w,i32_w]
  rfl
 refine done_ (done_of HT_.out (Z16)) ?_
 try go_wp2
 go_loopg [9] k (fun kq v9 w'=>∃ (x9_1:Int),v9=.int .i64 x9_1/\Aside0 (ligatureref08_Table_Cuts.l0 kq t309 t310 x9_1 l0_0 l0_1=some r)/\Aside0 (kq≤k)/\Aside0 (w'.heap[gb308]?=some (.cells #[(.slice A0_0 l0_0.length c0_0),(.slice A0_1 l0_1.length c0_1)] 36 (0,0)))/\Aside0 (Below w.heap.size w w'))
 case atStart=>exact⟨(0),(Z17),H',⟨Nat.le_refl _⟩,⟨Z60⟩,⟨Z61⟩⟩
 case round =>
  clear H'
  try clear c1
  try clear p2
  try clear c6
  obtain⟨x9_1,rfl,HA,HK1,BK308,HB⟩:=hrel
  cases gk with
  | zero=>exact absurd HA.out (by simp[ligatureref08_Table_Cuts.l0])
  | succ k1 =>
   have H:=HA.out
   clear HA
   simp only[ligatureref08_Table_Cuts.l0]at H
   by_cases c10:x9_1<(l0_1.length:Int)
   ·rw[if_pos c10]at H
    have c10b0:=decide_eq_true c10
    clear c10
    by_cases c11:0≤x9_1
    ·rw[if_pos c11]at H
     have c11b0:=decide_eq_true c11
     clear c11
     by_cases c12:((rd_T108 l0_1 x9_1).f0)=t309
     ·rw[if_pos c12]at H
      have c12b0:(((rd_T108 l0_1 x9_1).f0)==t309)=true:=beq_iff_eq.mpr c12
      have c12b1:(((rd_T108 l0_1 x9_1).f0) != t309)=false:=bne_eq_false_iff_eq.mpr c12
      clear c12
      by_cases c13:((rd_T108 l0_1 x9_1).f1)=t310
      ·rw[if_pos c13]at H
       have c13b0:(((rd_T108 l0_1 x9_1).f1)==t310)=true:=beq_iff_eq.mpr c13
       have c13b1:(((rd_T108 l0_1 x9_1).f1) != t310)=false:=bne_eq_false_iff_eq.mpr c13
       clear c13
       obtain rfl:=Option.some.inj H
       have hcz14_0:wr.cell? ⟨gb308,0,none⟩=some (.slice A0_0 l0_0.length c0_0):=(blk_cell BK308.out 0).trans rfl
       have hcz14_1:wr.cell? ⟨gb308,1,none⟩=some (.slice A0_1 l0_1.length c0_1):=(blk_cell BK308.out 1).trans rfl
       have hfz14_0:=blk_frozen BK308.out 0
       have hfz14_1:=blk_frozen BK308.out 1
       have p311:0≤(x9_1:Int):=of_decide_eq_true (Z19)
       have q311:x9_1<(l0_1.length:Int):=of_decide_eq_true (Z19)
       obtain⟨ad311,e311,hx311_0,hx311_1⟩:=at_T108 HR0_1.out x9_1 p311 q311
       cases e311
       replace hx311_0:=(HB.out.cell (World.block_lt_of_cell? w _ hx311_0)).trans hx311_0
       replace hx311_1:=(HB.out.cell (World.block_lt_of_cell? w _ hx311_1)).trans hx311_1
       replace p311:=eq_true p311
       replace q311:=eq_true q311
       have p312:0≤(x9_1:Int):=of_decide_eq_true (Z19)
       have q312:x9_1<(l0_1.length:Int):=of_decide_eq_true (Z19)
       obtain⟨ad312,e312,hx312_0,hx312_1⟩:=at_T108 HR0_1.out x9_1 p312 q312
       obtain rfl:ad311=ad312:=(by injection e312)
       replace hx312_0:=(HB.out.cell (World.block_lt_of_cell? w _ hx312_0)).trans hx312_0
       replace hx312_1:=(HB.out.cell (World.block_lt_of_cell? w _ hx312_1)).trans hx312_1
       replace p312:=eq_true p312
       replace q312:=eq_true q312
       go_wp2
       go_ret
       exact⟨Z22,Z61⟩
      ·rw[if_neg c13]at H
       have c13b0:(((rd_T108 l0_1 x9_1).f1)==t310)=false:=beq_eq_false_iff_ne.mpr c13
       have c13b1:(((rd_T108 l0_1 x9_1).f1) != t310)=true:=bne_iff_ne.mpr c13
       have H':=Aside0.mk H
       clear H
       have hcz15_0:wr.cell? ⟨gb308,0,none⟩=some (.slice A0_0 l0_0.length c0_0):=(blk_cell BK308.out 0).trans rfl
       have hcz15_1:wr.cell? ⟨gb308,1,none⟩=some (.slice A0_1 l0_1.length c0_1):=(blk_cell BK308.out 1).trans rfl
       have hfz15_0:=blk_frozen BK308.out 0
       have hfz15_1:=blk_frozen BK308.out 1
       have p311:0≤(x9_1:Int):=of_decide_eq_true (Z19)
       have q311:x9_1<(l0_1.length:Int):=of_decide_eq_true (Z19)
       obtain⟨ad311,e311,hx311_0,hx311_1⟩:=at_T108 HR0_1.out x9_1 p311 q311
       cases e311
       replace hx311_0:=(HB.out.cell (World.block_lt_of_cell? w _ hx311_0)).trans hx311_0
       replace hx311_1:=(HB.out.cell (World.block_lt_of_cell? w _ hx311_1)).trans hx311_1
       replace p311:=eq_true p311
       replace q311:=eq_true q311
       have p312:0≤(x9_1:Int):=of_decide_eq_true (Z19)
       have q312:x9_1<(l0_1.length:Int):=of_decide_eq_true (Z19)
       obtain⟨ad312,e312,hx312_0,hx312_1⟩:=at_T108 HR0_1.out x9_1 p312 q312
       obtain rfl:ad311=ad312:=(by injection e312)
       replace hx312_0:=(HB.out.cell (World.block_lt_of_cell? w _ hx312_0)).trans hx312_0
       replace hx312_1:=(HB.out.cell (World.block_lt_of_cell? w _ hx312_1)).trans hx312_1
       replace p312:=eq_true p312
       replace q312:=eq_true q312
       go_wp2
       go_roundg k1
       case measure=>have:=HK1.out;omega
       case rel=>exact⟨(wrap64 (x9_1+1)),(Z17),H',⟨Z20⟩,⟨Z60⟩,⟨Z61⟩⟩
     ·rw[if_neg c12]at H
      have c12b0:(((rd_T108 l0_1 x9_1).f0)==t309)=false:=beq_eq_false_iff_ne.mpr c12
      have c12b1:(((rd_T108 l0_1 x9_1).f0) != t309)=true:=bne_iff_ne.mpr c12
      have H':=Aside0.mk H
      clear H
      have hcz16_0:wr.cell? ⟨gb308,0,none⟩=some (.slice A0_0 l0_0.length c0_0):=(blk_cell BK308.out 0).trans rfl
      have hcz16_1:wr.cell? ⟨gb308,1,none⟩=some (.slice A0_1 l0_1.length c0_1):=(blk_cell BK308.out 1).trans rfl
      have hfz16_0:=blk_frozen BK308.out 0
      have hfz16_1:=blk_frozen BK308.out 1
      have p311:0≤(x9_1:Int):=of_decide_eq_true (Z19)
      have q311:x9_1<(l0_1.length:Int):=of_decide_eq_true (Z19)
      obtain⟨ad311,e311,hx311_0,hx311_1⟩:=at_T108 HR0_1.out x9_1 p311 q311
      cases e311
      replace hx311_0:=(HB.out.cell (World.block_lt_of_cell? w _ hx311_0)).trans hx311_0
      replace hx311_1:=(HB.out.cell (World.block_lt_of_cell? w _ hx311_1)).trans hx311_1
      replace p311:=eq_true p311
      replace q311:=eq_true q311
      go_wp2
      go_roundg k1
      case measure=>have:=HK1.out;omega
      case rel=>exact⟨(wrap64 (x9_1+1)),(Z17),H',⟨Z20⟩,⟨Z60⟩,⟨Z61⟩⟩
    ·rw[if_neg c11]at H
     exact absurd H (by simp)
   ·rw[if_neg c10]at H
    have c10b0:=decide_eq_false c10
    clear c10
    obtain rfl:=Option.some.inj H
    have hcz17_0:wr.cell? ⟨gb308,0,none⟩=some (.slice A0_0 l0_0.length c0_0):=(blk_cell BK308.out 0).trans rfl
    have hcz17_1:wr.cell? ⟨gb308,1,none⟩=some (.slice A0_1 l0_1.length c0_1):=(blk_cell BK308.out 1).trans rfl
    have hfz17_0:=blk_frozen BK308.out 0
    have hfz17_1:=blk_frozen BK308.out 1
    go_wp2
    go_ret
    exact⟨Z22,Z61⟩
end Go.Proofs.YtkffhgiiejbnaaaGreat.Rf
namespace Go.Proofs.YtkffhgiiejbnaaaGreat.Rf
open Go.RowKit YtkffhgiiejbnaaaGreatW.PrintWords YtkffhgiiejbnaaaGreatW.PrintLast YtkffhgiiejbnaaaGreatW.PrintMore
attribute [local go_sem] max2_int min2_int max_two min_two max_three min_three max_four min_four
def ligatureref10_Great.f (k:Nat) (l0:List Int) (l1:List (S165)) (l2:List (S108)) (l3:List (S93)):Option (Bool):=if (l0.length:Int)>60 then (some true) else (if (l1.length:Int)>20 then (some true) else (if (l2.length:Int)>20 then (some true) else ((ligatureref09_Great.f k l3).bind fun t102=>(some t102))))
theorem ligatureref10_Great.calls (k:Nat) (A0:Option Addr) (c0:Nat) (l0:List Int) (A1:Option Addr) (c1:Nat) (l1:List (S165)) (A2:Option Addr) (c2:Nat) (l2:List (S108)) (A3:Option Addr) (c3:Nat) (l3:List (S93)) (r:Bool) (w:World) (hr0:Kd.C (Kd.int .u16) w A0 l0.length l0) (hc0:l0.length≤c0) (hr1:Kd.C k165 w A1 l1.length l1) (hc1:l1.length≤c1) (hr2:Kd.C k108 w A2 l2.length l2) (hc2:l2.length≤c2) (hr3:Kd.C k93 w A3 l3.length l3) (hc3:l3.length≤c3) (h:ligatureref10_Great.f k l0 l1 l2 l3=some r) :
  Calls Tryz.prog 49 #[.slice A0 l0.length c0,.slice A1 l1.length c1,.slice A2 l2.length c2,.slice A3 l3.length c3] w fun e w'=>e=.returned (.bool r)/\Drawn0 w w':=by
 have HR0:=Aside0.mk hr0
 have HC0:=Aside0.mk hc0
 clear hr0 hc0
 have HR1:=Aside0.mk hr1
 have HC1:=Aside0.mk hc1
 clear hr1 hc1
 have HR2:=Aside0.mk hr2
 have HC2:=Aside0.mk hc2
 clear hr2 hc2
 have HR3:=Aside0.mk hr3
 have HC3:=Aside0.mk hc3
 clear hr3 hc3
 have H:(if (l0.length:Int)>60 then (some true) else (if (l1.length:Int)>20 then (some true) else (if (l2.length:Int)>20 then (some true) else ((ligatureref09_Great.f k l3).bind fun t102=>(some t102)))))=some r:=h
 clear h
 by_cases c5:(l0.length:Int)>60
 ·rw[if_pos c5]at H
  have c5b0:decide (60<(l0.length:Int))=true:=decide_eq_true c5
  have c5b1:decide (60<l0.length)=true:=decide_eq_true (Z1)
  clear c5
  obtain rfl:=Option.some.inj H
  go_enter Tryz.func49,Tryz.ntmps49
  go_wp2
  go_ret
  exact⟨Z17,Z18⟩
 ·rw[if_neg c5]at H
  have c5b0:decide (60<(l0.length:Int))=false:=decide_eq_false c5
  have c5b1:decide (60<l0.length)=false:=decide_eq_false (Z1)
  clear c5
  by_cases c6:(l1.length:Int)>20
  ·rw[if_pos c6]at H
   have c6b0:decide (20<(l1.length:Int))=true:=decide_eq_true c6
   have c6b1:decide (20<l1.length)=true:=decide_eq_true (Z1)
   clear c6
   obtain rfl:=Option.some.inj H
   go_enter Tryz.func49,Tryz.ntmps49
   go_wp2
   go_ret
   exact⟨Z17,Z18⟩
  ·rw[if_neg c6]at H
   have c6b0:decide (20<(l1.length:Int))=false:=decide_eq_false c6
   have c6b1:decide (20<l1.length)=false:=decide_eq_false (Z1)
   clear c6
   by_cases c7:(l2.length:Int)>20
   ·rw[if_pos c7]at H
    have c7b0:decide (20<(l2.length:Int))=true:=decide_eq_true c7
    have c7b1:decide (20<l2.length)=true:=decide_eq_true (Z1)
    clear c7
    obtain rfl:=Option.some.inj H
    go_enter Tryz.func49,Tryz.ntmps49
    go_wp2
    go_ret
    exact⟨Z17,Z18⟩
   ·rw[if_neg c7]at H
    have c7b0:decide (20<(l2.length:Int))=false:=decide_eq_false c7
    have c7b1:decide (20<l2.length)=false:=decide_eq_false (Z1)
    clear c7
    replace H:=Option.bind_eq_some_iff.mp H
    obtain⟨t102,A80,H⟩:=H
    replace H:(some t102)=some r:=H
    have A8:=Aside0.mk A80
    clear A80
    obtain rfl:=Option.some.inj H
    go_enter Tryz.func49,Tryz.ntmps49
    go_wp2_with (first|(go_at_call 84;(with_reducible refine(ligatureref09_Great.calls k _ _ l3 t102 _ ?side1 ?side2 A8.out).mono ?_);(case side1=>repeat(first|exact HR3.out|(with_reducible refine Kd.C_alloc ?_ _)|(with_reducible refine Kd.C_drewN ?_ _)|(with_reducible refine Kd.C_drew ?_)));(case side2=>exact HC3.out);rintro e w' ⟨rfl,⟨nd,rfl⟩⟩))
    go_ret
    exact⟨Z17,Z18⟩
end Go.Proofs.YtkffhgiiejbnaaaGreat.Rf
namespace Go.Proofs.YtkffhgiiejbnaaaGreat.Rf
open Go.RowKit YtkffhgiiejbnaaaGreatW.PrintWords YtkffhgiiejbnaaaGreatW.PrintLast YtkffhgiiejbnaaaGreatW.PrintMore
attribute [local go_sem] max2_int min2_int max_two min_two max_three min_three max_four min_four
def ligaturelaw12_Great.f (k:Nat) (l0_0:List Int) (l0_1:List (S165)) (l0_2:List (S108)) (l0_3:List (S93)):Option (Int):=(ligatureref10_Great.f k l0_0 l0_1 l0_2 l0_3).bind fun t104=>(if t104=true then (some 1) else (some 0))
theorem ligaturelaw12_Great.calls (k:Nat) (A0_0:Option Addr) (c0_0:Nat) (l0_0:List Int) (A0_1:Option Addr) (c0_1:Nat) (l0_1:List (S165)) (A0_2:Option Addr) (c0_2:Nat) (l0_2:List (S108)) (A0_3:Option Addr) (c0_3:Nat) (l0_3:List (S93)) (r:Int) (w:World) (hr0_0:Kd.C (Kd.int .u16) w A0_0 l0_0.length l0_0) (hc0_0:l0_0.length≤c0_0) (hr0_1:Kd.C k165 w A0_1 l0_1.length l0_1) (hc0_1:l0_1.length≤c0_1) (hr0_2:Kd.C k108 w A0_2 l0_2.length l0_2) (hc0_2:l0_2.length≤c0_2) (hr0_3:Kd.C k93 w A0_3 l0_3.length l0_3) (hc0_3:l0_3.length≤c0_3) (h:ligaturelaw12_Great.f k l0_0 l0_1 l0_2 l0_3=some r) :
  Calls Tryz.prog 13 #[.agg #[.slice A0_0 l0_0.length c0_0,.slice A0_1 l0_1.length c0_1,.slice A0_2 l0_2.length c0_2,.slice A0_3 l0_3.length c0_3]] w fun e w'=>e=.returned (.int .i64 r)/\Below w.heap.size w w':=by
 have hu27:=Tryz.underlying27
 have HR0_0:=Aside0.mk hr0_0
 have HC0_0:=Aside0.mk hc0_0
 clear hr0_0 hc0_0
 have HR0_1:=Aside0.mk hr0_1
 have HC0_1:=Aside0.mk hc0_1
 clear hr0_1 hc0_1
 have HR0_2:=Aside0.mk hr0_2
 have HC0_2:=Aside0.mk hc0_2
 clear hr0_2 hc0_2
 have HR0_3:=Aside0.mk hr0_3
 have HC0_3:=Aside0.mk hc0_3
 clear hr0_3 hc0_3
 have HB:=Aside0.mk (Below.refl w.heap.size w)
 have H:((ligatureref10_Great.f k l0_0 l0_1 l0_2 l0_3).bind fun t104=>(if t104=true then (some 1) else (some 0)))=some r:=h
 clear h
 replace H:=Option.bind_eq_some_iff.mp H
 obtain⟨t104,A20,H⟩:=H
 replace H:(if t104=true then (some 1) else (some 0))=some r:=H
 have A2:=Aside0.mk A20
 clear A20
 by_cases c3:t104=true
 ·subst c3
  have H1:(some 1)=some r:=Z36
  clear H
  have H:=H1
  clear H1
  obtain rfl:=Option.some.inj H
  go_enter Tryz.func13,Tryz.ntmps13
  go_wp2_with (first|((with_reducible refine gate_dst (N:=1) rfl ?_);refine bxE 1 (#[.slice A0_0 l0_0.length c0_0,.slice A0_1 l0_1.length c0_1,.slice A0_2 l0_2.length c0_2,.slice A0_3 l0_3.length c0_3]) 27 ?_;intro gb103 hg w4 hbox hb;have BK103:=Aside0.mk (hbox);have GW103:=Aside0.mk ((Z178:w.heap.size≤gb103));have GE103:=GW103;replace HB:=Aside0.mk (below_step (Z21) hb);clear hb hbox hg;have hcz5_0:w4.cell? ⟨gb103,0,none⟩=some (.slice A0_0 l0_0.length c0_0):=(blk_cell BK103.out 0).trans rfl;have hcz5_1:w4.cell? ⟨gb103,1,none⟩=some (.slice A0_1 l0_1.length c0_1):=(blk_cell BK103.out 1).trans rfl;have hcz5_2:w4.cell? ⟨gb103,2,none⟩=some (.slice A0_2 l0_2.length c0_2):=(blk_cell BK103.out 2).trans rfl;have hcz5_3:w4.cell? ⟨gb103,3,none⟩=some (.slice A0_3 l0_3.length c0_3):=(blk_cell BK103.out 3).trans rfl;have hfz5_0:=blk_frozen BK103.out 0;have hfz5_1:=blk_frozen BK103.out 1;have hfz5_2:=blk_frozen BK103.out 2;have hfz5_3:=blk_frozen BK103.out 3)|((with_reducible refine gate_callee (f:=49) rfl ?_);refine goesL_ (some 11) rfl rfl Tryz.func49 (Z16) rfl #[.slice A0_0 l0_0.length c0_0,.slice A0_1 l0_1.length c0_1,.slice A0_2 l0_2.length c0_2,.slice A0_3 l0_3.length c0_3] rfl (Z37) ?_;(with_reducible refine(ligatureref10_Great.calls k _ _ l0_0 _ _ l0_1 _ _ l0_2 _ _ l0_3 true _ ?side1 ?side2 ?side3 ?side4 ?side5 ?side6 ?side7 ?side8 A2.out).mono ?_);(case side1=>exact Z56);(case side2=>exact HC0_0.out);(case side3=>exact Z57);(case side4=>exact HC0_1.out);(case side5=>exact Z62);(case side6=>exact HC0_2.out);(case side7=>exact Z63);(case side8=>exact HC0_3.out);rintro e w' ⟨rfl,⟨nd,rfl⟩⟩;refine⟨_,rfl,?_⟩))
  go_ret
  exact⟨Z22,Z64⟩
 ·replace c3:=Bool.eq_false_iff.mpr c3
  subst c3
  have H1:(some 0)=some r:=Z179
  clear H
  have H:=H1
  clear H1
  obtain rfl:=Option.some.inj H
  go_enter Tryz.func13,Tryz.ntmps13
  go_wp2_with (first|((with_reducible refine gate_dst (N:=1) rfl ?_);refine bxE 1 (#[.slice A0_0 l0_0.length c0_0,.slice A0_1 l0_1.length c0_1,.slice A0_2 l0_2.length c0_2,.slice A0_3 l0_3.length c0_3]) 27 ?_;intro gb103 hg w6 hbox hb;have BK103:=Aside0.mk (hbox);have GW103:=Aside0.mk ((Z178:w.heap.size≤gb103));have GE103:=GW103;replace HB:=Aside0.mk (below_step (Z21) hb);clear hb hbox hg;have hcz7_0:w6.cell? ⟨gb103,0,none⟩=some (.slice A0_0 l0_0.length c0_0):=(blk_cell BK103.out 0).trans rfl;have hcz7_1:w6.cell? ⟨gb103,1,none⟩=some (.slice A0_1 l0_1.length c0_1):=(blk_cell BK103.out 1).trans rfl;have hcz7_2:w6.cell? ⟨gb103,2,none⟩=some (.slice A0_2 l0_2.length c0_2):=(blk_cell BK103.out 2).trans rfl;have hcz7_3:w6.cell? ⟨gb103,3,none⟩=some (.slice A0_3 l0_3.length c0_3):=(blk_cell BK103.out 3).trans rfl;have hfz7_0:=blk_frozen BK103.out 0;have hfz7_1:=blk_frozen BK103.out 1;have hfz7_2:=blk_frozen BK103.out 2;have hfz7_3:=blk_frozen BK103.out 3)|((with_reducible refine gate_callee (f:=49) rfl ?_);refine goesL_ (some 11) rfl rfl Tryz.func49 (Z16) rfl #[.slice A0_0 l0_0.length c0_0,.slice A0_1 l0_1.length c0_1,.slice A0_2 l0_2.length c0_2,.slice A0_3 l0_3.length c0_3] rfl (Z37) ?_;(with_reducible refine(ligatureref10_Great.calls k _ _ l0_0 _ _ l0_1 _ _ l0_2 _ _ l0_3 false _ ?side1 ?side2 ?side3 ?side4 ?side5 ?side6 ?side7 ?side8 A2.out).mono ?_);(case side1=>exact Z56);(case side2=>exact HC0_0.out);(case side3=>exact Z57);(case side4=>exact HC0_1.out);(case side5=>exact Z62);(case side6=>exact HC0_2.out);(case side7=>exact Z63);(case side8=>exact HC0_3.out);rintro e w' ⟨rfl,⟨nd,rfl⟩⟩;refine⟨_,rfl,?_⟩))
  go_ret
  exact⟨Z22,Z64⟩
end Go.Proofs.YtkffhgiiejbnaaaGreat.Rf
namespace Go.Proofs.YtkffhgiiejbnaaaGreat.Rf
open Go.RowKit YtkffhgiiejbnaaaGreatW.PrintWords YtkffhgiiejbnaaaGreatW.PrintLast YtkffhgiiejbnaaaGreatW.PrintMore
attribute [local go_sem] max2_int min2_int max_two min_two max_three min_three max_four min_four
def seek_pattern_step.l0:Nat->Int->Int->List Int->List Int->Option (Int)
 | 0,_,_,_,_=>none
 | k+1,x1,x2,x359000,x359001=>if x1>0 then (if x1=(x359000.length:Int) then (if 0≤x1 then (if x1<(x359001.length:Int) then (seek_pattern_step.l0 k (rd x359001 x1) x2 x359000 x359001) else (none)) else (none)) else (if 0≤x1 then (if x1<(x359000.length:Int) then (if (rd x359000 x1)=x2 then (some (wrap64 (x1+1))) else (if x1<(x359001.length:Int) then (seek_pattern_step.l0 k (rd x359001 x1) x2 x359000 x359001) else (none))) else (none)) else (none))) else (if 0≤x1 then (if x1<(x359000.length:Int) then (if (rd x359000 x1)=x2 then (some (wrap64 (x1+1))) else (some x1)) else (none)) else (none))
def seek_pattern_step.f (k:Nat) (l0_0:List Int) (l0_1:List Int) (a1:Int) (a2:Int):Option (Int):=seek_pattern_step.l0 k a1 a2 l0_0 l0_1
theorem seek_pattern_step.calls (k:Nat) (A0_0:Option Addr) (c0_0:Nat) (l0_0:List Int) (A0_1:Option Addr) (c0_1:Nat) (l0_1:List Int) (a1:Int) (a2:Int) (r:Int) (w:World) (hr0_0:Kd.C (Kd.int .i64) w A0_0 l0_0.length l0_0) (hc0_0:l0_0.length≤c0_0) (hr0_1:Kd.C (Kd.int .i64) w A0_1 l0_1.length l0_1) (hc0_1:l0_1.length≤c0_1) (h:seek_pattern_step.f k l0_0 l0_1 a1 a2=some r) :
  Calls Tryz.prog 101 #[.agg #[.slice A0_0 l0_0.length c0_0,.slice A0_1 l0_1.length c0_1],.int .i64 a1,.int .i64 a2] w fun e w'=>e=.returned (.int .i64 r)/\Below w.heap.size w w':=by
 have hu116:=Tryz.underlying116
 have HR0_0:=Aside0.mk hr0_0
 have HC0_0:=Aside0.mk hc0_0
 clear hr0_0 hc0_0
 have HR0_1:=Aside0.mk hr0_1
 have HC0_1:=Aside0.mk hc0_1
 clear hr0_1 hc0_1
 have HB:=Aside0.mk (Below.refl w.heap.size w)
 have H:(seek_pattern_step.l0 k a1 a2 l0_0 l0_1)=some r:=h
 clear h
 have H':=Aside0.mk H
 clear H
 go_enter Tryz.func101,Tryz.ntmps101
 go_wp2_with (first|((with_reducible refine gate_dst (N:=3) rfl ?_);(try(refine gate_guard (by rfl) ?_;dsimp only));refine bxE 3 (#[.slice A0_0 l0_0.length c0_0,.slice A0_1 l0_1.length c0_1]) 116 ?_;intro gb358 hg w4 hbox hb;have BK358:=Aside0.mk (hbox);have GW358:=Aside0.mk ((Z178:w.heap.size≤gb358));have GE358:=GW358;replace HB:=Aside0.mk (below_step (Z21) hb);clear hb hbox hg))
 go_loopg [1] k (fun kq v1 w'=>∃ (x1_1:Int),v1=.int .i64 x1_1/\Aside0 (seek_pattern_step.l0 kq x1_1 a2 l0_0 l0_1=some r)/\Aside0 (kq≤k)/\Aside0 (w'.heap[gb358]?=some (.cells #[(.slice A0_0 l0_0.length c0_0),(.slice A0_1 l0_1.length c0_1)] 116 (0,0)))/\Aside0 (Below w.heap.size w w'))
 case atStart=>exact⟨(a1),(Z17),H',⟨Nat.le_refl _⟩,⟨Z65⟩,⟨Z66⟩⟩
 case round =>
  clear H'
  try clear c1
  try clear p2
  obtain⟨x1_1,rfl,HA,HK1,BK358,HB⟩:=hrel
  cases gk with
  | zero=>exact absurd HA.out (by simp[seek_pattern_step.l0])
  | succ k1 =>
   have H:=HA.out
   clear HA
   simp only[seek_pattern_step.l0]at H
   by_cases c5:x1_1>0
   ·rw[if_pos c5]at H
    have c5b0:decide (0<x1_1)=true:=decide_eq_true c5
    clear c5
    by_cases c6:x1_1=(l0_0.length:Int)
    ·rw[if_pos c6]at H
     have c6b0:(x1_1==(l0_0.length:Int))=true:=beq_iff_eq.mpr c6
     have c6b1:(x1_1 != (l0_0.length:Int))=false:=bne_eq_false_iff_eq.mpr c6
     clear c6
     by_cases c7:0≤x1_1
     ·rw[if_pos c7]at H
      have c7b0:=decide_eq_true c7
      clear c7
      by_cases c8:x1_1<(l0_1.length:Int)
      ·rw[if_pos c8]at H
       have c8b0:=decide_eq_true c8
       clear c8
       have H':=Aside0.mk H
       clear H
       have hcz9_0:wr.cell? ⟨gb358,0,none⟩=some (.slice A0_0 l0_0.length c0_0):=(blk_cell BK358.out 0).trans rfl
       have hcz9_1:wr.cell? ⟨gb358,1,none⟩=some (.slice A0_1 l0_1.length c0_1):=(blk_cell BK358.out 1).trans rfl
       have hfz9_0:=blk_frozen BK358.out 0
       have hfz9_1:=blk_frozen BK358.out 1
       have p359:0≤(x1_1:Int):=of_decide_eq_true (Z19)
       have q359:x1_1<(l0_1.length:Int):=of_decide_eq_true (Z19)
       obtain⟨ad359,e359,hx359_0⟩:=Kd.at_int HR0_1.out x1_1 p359 q359
       cases e359
       replace hx359_0:=(HB.out.cell (World.block_lt_of_cell? w _ hx359_0)).trans hx359_0
       replace p359:=eq_true p359
       replace q359:=eq_true q359
       go_wp2
       go_roundg k1
       case measure=>have:=HK1.out;omega
       case rel=>exact⟨(rd l0_1 x1_1),(Z17),H',⟨Z20⟩,⟨Z65⟩,⟨Z66⟩⟩
      ·rw[if_neg c8]at H
       exact absurd H (by simp)
     ·rw[if_neg c7]at H
      exact absurd H (by simp)
    ·rw[if_neg c6]at H
     have c6b0:(x1_1==(l0_0.length:Int))=false:=beq_eq_false_iff_ne.mpr c6
     have c6b1:(x1_1 != (l0_0.length:Int))=true:=bne_iff_ne.mpr c6
     by_cases c10:0≤x1_1
     ·rw[if_pos c10]at H
      have c10b0:=decide_eq_true c10
      clear c10
      by_cases c11:x1_1<(l0_0.length:Int)
      ·rw[if_pos c11]at H
       have c11b0:=decide_eq_true c11
       clear c11
       by_cases c12:(rd l0_0 x1_1)=a2
       ·rw[if_pos c12]at H
        have c12b0:((rd l0_0 x1_1)==a2)=true:=beq_iff_eq.mpr c12
        have c12b1:((rd l0_0 x1_1) != a2)=false:=bne_eq_false_iff_eq.mpr c12
        clear c12
        obtain rfl:=Option.some.inj H
        have hcz13_0:wr.cell? ⟨gb358,0,none⟩=some (.slice A0_0 l0_0.length c0_0):=(blk_cell BK358.out 0).trans rfl
        have hcz13_1:wr.cell? ⟨gb358,1,none⟩=some (.slice A0_1 l0_1.length c0_1):=(blk_cell BK358.out 1).trans rfl
        have hfz13_0:=blk_frozen BK358.out 0
        have hfz13_1:=blk_frozen BK358.out 1
        have p360:0≤(x1_1:Int):=of_decide_eq_true (Z19)
        have q360:x1_1<(l0_0.length:Int):=of_decide_eq_true (Z19)
        obtain⟨ad360,e360,hx360_0⟩:=Kd.at_int HR0_0.out x1_1 p360 q360
        cases e360
        replace hx360_0:=(HB.out.cell (World.block_lt_of_cell? w _ hx360_0)).trans hx360_0
        replace p360:=eq_true p360
        replace q360:=eq_true q360
        have p361:0≤(x1_1:Int):=of_decide_eq_true (Z19)
        have q361:x1_1<(l0_0.length:Int):=of_decide_eq_true (Z19)
        obtain⟨ad361,e361,hx361_0⟩:=Kd.at_int HR0_0.out x1_1 p361 q361
        obtain rfl:ad360=ad361:=(by injection e361)
        replace hx361_0:=(HB.out.cell (World.block_lt_of_cell? w _ hx361_0)).trans hx361_0
        replace p361:=eq_true p361
        replace q361:=eq_true q361
        go_wp2
        go_ret
        exact⟨Z22,Z66⟩
       ·rw[if_neg c12]at H
        have c12b0:((rd l0_0 x1_1)==a2)=false:=beq_eq_false_iff_ne.mpr c12
        have c12b1:((rd l0_0 x1_1) != a2)=true:=bne_iff_ne.mpr c12
        by_cases c14:x1_1<(l0_1.length:Int)
        ·rw[if_pos c14]at H
         have c14b0:=decide_eq_true c14
         clear c14
         have H':=Aside0.mk H
         clear H
         have hcz15_0:wr.cell? ⟨gb358,0,none⟩=some (.slice A0_0 l0_0.length c0_0):=(blk_cell BK358.out 0).trans rfl
         have hcz15_1:wr.cell? ⟨gb358,1,none⟩=some (.slice A0_1 l0_1.length c0_1):=(blk_cell BK358.out 1).trans rfl
         have hfz15_0:=blk_frozen BK358.out 0
         have hfz15_1:=blk_frozen BK358.out 1
         have p360:0≤(x1_1:Int):=of_decide_eq_true (Z19)
         have q360:x1_1<(l0_0.length:Int):=of_decide_eq_true (Z19)
         obtain⟨ad360,e360,hx360_0⟩:=Kd.at_int HR0_0.out x1_1 p360 q360
         cases e360
         replace hx360_0:=(HB.out.cell (World.block_lt_of_cell? w _ hx360_0)).trans hx360_0
         replace p360:=eq_true p360
         replace q360:=eq_true q360
         have p362:0≤(x1_1:Int):=of_decide_eq_true (Z19)
         have q362:x1_1<(l0_1.length:Int):=of_decide_eq_true (Z19)
         obtain⟨ad362,e362,hx362_0⟩:=Kd.at_int HR0_1.out x1_1 p362 q362
         cases e362
         replace hx362_0:=(HB.out.cell (World.block_lt_of_cell? w _ hx362_0)).trans hx362_0
         replace p362:=eq_true p362
         replace q362:=eq_true q362
         go_wp2
         go_roundg k1
         case measure=>have:=HK1.out;omega
         case rel=>exact⟨(rd l0_1 x1_1),(Z17),H',⟨Z20⟩,⟨Z65⟩,⟨Z66⟩⟩
        ·rw[if_neg c14]at H
         exact absurd H (by simp)
      ·rw[if_neg c11]at H
       exact absurd H (by simp)
     ·rw[if_neg c10]at H
      exact absurd H (by simp)
   ·rw[if_neg c5]at H
    have c5b0:decide (0<x1_1)=false:=decide_eq_false c5
    clear c5
    by_cases c16:0≤x1_1
    ·rw[if_pos c16]at H
     have c16b0:=decide_eq_true c16
     clear c16
     by_cases c17:x1_1<(l0_0.length:Int)
     ·rw[if_pos c17]at H
      have c17b0:=decide_eq_true c17
      clear c17
      by_cases c18:(rd l0_0 x1_1)=a2
      ·rw[if_pos c18]at H
       have c18b0:((rd l0_0 x1_1)==a2)=true:=beq_iff_eq.mpr c18
       have c18b1:((rd l0_0 x1_1) != a2)=false:=bne_eq_false_iff_eq.mpr c18
       clear c18
       obtain rfl:=Option.some.inj H
       have hcz19_0:wr.cell? ⟨gb358,0,none⟩=some (.slice A0_0 l0_0.length c0_0):=(blk_cell BK358.out 0).trans rfl
       have hcz19_1:wr.cell? ⟨gb358,1,none⟩=some (.slice A0_1 l0_1.length c0_1):=(blk_cell BK358.out 1).trans rfl
       have hfz19_0:=blk_frozen BK358.out 0
       have hfz19_1:=blk_frozen BK358.out 1
       have p363:0≤(x1_1:Int):=of_decide_eq_true (Z19)
       have q363:x1_1<(l0_0.length:Int):=of_decide_eq_true (Z19)
       obtain⟨ad363,e363,hx363_0⟩:=Kd.at_int HR0_0.out x1_1 p363 q363
       cases e363
       replace hx363_0:=(HB.out.cell (World.block_lt_of_cell? w _ hx363_0)).trans hx363_0
       replace p363:=eq_true p363
       replace q363:=eq_true q363
       go_wp2
       go_ret
       exact⟨Z22,Z66⟩
      ·rw[if_neg c18]at H
       have c18b0:((rd l0_0 x1_1)==a2)=false:=beq_eq_false_iff_ne.mpr c18
       have c18b1:((rd l0_0 x1_1) != a2)=true:=bne_iff_ne.mpr c18
       obtain rfl:=Option.some.inj H
       have hcz20_0:wr.cell? ⟨gb358,0,none⟩=some (.slice A0_0 l0_0.length c0_0):=(blk_cell BK358.out 0).trans rfl
       have hcz20_1:wr.cell? ⟨gb358,1,none⟩=some (.slice A0_1 l0_1.length c0_1):=(blk_cell BK358.out 1).trans rfl
       have hfz20_0:=blk_frozen BK358.out 0
       have hfz20_1:=blk_frozen BK358.out 1
       have p363:0≤(x1_1:Int):=of_decide_eq_true (Z19)
       have q363:x1_1<(l0_0.length:Int):=of_decide_eq_true (Z19)
       obtain⟨ad363,e363,hx363_0⟩:=Kd.at_int HR0_0.out x1_1 p363 q363
       cases e363
       replace hx363_0:=(HB.out.cell (World.block_lt_of_cell? w _ hx363_0)).trans hx363_0
       replace p363:=eq_true p363
       replace q363:=eq_true q363
       go_wp2
       go_ret
       exact⟨Z22,Z66⟩
     ·rw[if_neg c17]at H
      exact absurd H (by simp)
    ·rw[if_neg c16]at H
     exact absurd H (by simp)
end Go.Proofs.YtkffhgiiejbnaaaGreat.Rf
namespace Go.Proofs.YtkffhgiiejbnaaaGreat.Rf
open Go.RowKit YtkffhgiiejbnaaaGreatW.PrintWords YtkffhgiiejbnaaaGreatW.PrintLast YtkffhgiiejbnaaaGreatW.PrintMore
attribute [local go_sem] max2_int min2_int max_two min_two max_three min_three max_four min_four
def decode_need.f (a0:Int):Option (Int):=if (a0 / 32)=6 then (some 2) else (if (a0 / 16)=14 then (some 3) else (if (a0 / 8)=30 then (some 4) else (some 0)))
theorem decode_need.calls (a0:Int) (r:Int) (w:World) (h:decode_need.f a0=some r) :
  Calls Tryz.prog 74 #[.int .u8 a0] w fun e w'=>e=.returned (.int .i64 r)/\Drawn0 w w':=by
 have H:(if (a0 / 32)=6 then (some 2) else (if (a0 / 16)=14 then (some 3) else (if (a0 / 8)=30 then (some 4) else (some 0))))=some r:=h
 clear h
 by_cases c2:(a0 / 32)=6
 ·rw[if_pos c2]at H
  have c2b0:((a0 / 32)==6)=true:=beq_iff_eq.mpr c2
  have c2b1:((a0 / 32) != 6)=false:=bne_eq_false_iff_eq.mpr c2
  clear c2
  obtain rfl:=Option.some.inj H
  go_enter Tryz.func74,Tryz.ntmps74
  go_wp2
  go_ret
  exact⟨Z17,Z18⟩
 ·rw[if_neg c2]at H
  have c2b0:((a0 / 32)==6)=false:=beq_eq_false_iff_ne.mpr c2
  have c2b1:((a0 / 32) != 6)=true:=bne_iff_ne.mpr c2
  by_cases c3:(a0 / 16)=14
  ·rw[if_pos c3]at H
   have c3b0:((a0 / 16)==14)=true:=beq_iff_eq.mpr c3
   have c3b1:((a0 / 16) != 14)=false:=bne_eq_false_iff_eq.mpr c3
   clear c3
   obtain rfl:=Option.some.inj H
   go_enter Tryz.func74,Tryz.ntmps74
   go_wp2
   go_ret
   exact⟨Z17,Z18⟩
  ·rw[if_neg c3]at H
   have c3b0:((a0 / 16)==14)=false:=beq_eq_false_iff_ne.mpr c3
   have c3b1:((a0 / 16) != 14)=true:=bne_iff_ne.mpr c3
   by_cases c4:(a0 / 8)=30
   ·rw[if_pos c4]at H
    have c4b0:((a0 / 8)==30)=true:=beq_iff_eq.mpr c4
    have c4b1:((a0 / 8) != 30)=false:=bne_eq_false_iff_eq.mpr c4
    clear c4
    obtain rfl:=Option.some.inj H
    go_enter Tryz.func74,Tryz.ntmps74
    go_wp2
    go_ret
    exact⟨Z17,Z18⟩
   ·rw[if_neg c4]at H
    have c4b0:((a0 / 8)==30)=false:=beq_eq_false_iff_ne.mpr c4
    have c4b1:((a0 / 8) != 30)=true:=bne_iff_ne.mpr c4
    obtain rfl:=Option.some.inj H
    go_enter Tryz.func74,Tryz.ntmps74
    go_wp2
    go_ret
    exact⟨Z17,Z18⟩
end Go.Proofs.YtkffhgiiejbnaaaGreat.Rf
namespace Go.Proofs.YtkffhgiiejbnaaaGreat.Rf
open Go.RowKit YtkffhgiiejbnaaaGreatW.PrintWords YtkffhgiiejbnaaaGreatW.PrintLast YtkffhgiiejbnaaaGreatW.PrintMore
attribute [local go_sem] max2_int min2_int max_two min_two max_three min_three max_four min_four
def decode_goes.l0:Nat->ByteArray->Int->Int->Option (Bool)
 | 0,_,_,_=>none
 | k+1,x0,x5,x6=>if x6<x5 then (if 0≤x6 then (if x6<(x0.size:Int) then (if ((bt x0 x6) / 64)=2 then (decode_goes.l0 k x0 x5 (wrap64 (x6+1))) else (some false)) else (none)) else (none)) else (some true)
def decode_goes.f (k:Nat) (a0:ByteArray):Option (Bool):=decode_goes.l0 k a0 (a0.size:Int) 0
theorem decode_goes.calls (k:Nat) (a0:ByteArray) (r:Bool) (w:World) (h:decode_goes.f k a0=some r) :
  Calls Tryz.prog 75 #[.string a0] w fun e w'=>e=.returned (.bool r)/\Drawn0 w w':=by
 have H:(decode_goes.l0 k a0 (a0.size:Int) 0)=some r:=h
 clear h
 have H':=Aside0.mk H
 clear H
 go_enter Tryz.func75,Tryz.ntmps75
 go_wp2
 go_loopg [6] k (fun kq v6 w'=>∃ (x6_1:Int),v6=.int .i64 x6_1/\Aside0 (decode_goes.l0 kq a0 (a0.size:Int) x6_1=some r)/\Aside0 (kq≤k)/\Drawn0 w w')
 case atStart=>exact⟨(0),(Z17),H',⟨Nat.le_refl _⟩,Z18⟩
 case round =>
  clear H'
  obtain⟨x6_1,rfl,HA,HK1,⟨m1,rfl⟩⟩:=hrel
  cases gk with
  | zero=>exact absurd HA.out (by simp[decode_goes.l0])
  | succ k1 =>
   have H:=HA.out
   clear HA
   simp only[decode_goes.l0]at H
   by_cases c2:x6_1<(a0.size:Int)
   ·rw[if_pos c2]at H
    have c2b0:=decide_eq_true c2
    clear c2
    by_cases c3:0≤x6_1
    ·rw[if_pos c3]at H
     have c3b0:=decide_eq_true c3
     clear c3
     by_cases c4:x6_1<(a0.size:Int)
     ·rw[if_pos c4]at H
      have c4b0:=decide_eq_true c4
      clear c4
      by_cases c6:((bt a0 x6_1) / 64)=2
      ·rw[if_pos c6]at H
       have c6b0:(((bt a0 x6_1) / 64)==2)=true:=beq_iff_eq.mpr c6
       have c6b1:(((bt a0 x6_1) / 64) != 2)=false:=bne_eq_false_iff_eq.mpr c6
       clear c6
       have H':=Aside0.mk H
       clear H
       have p5:0≤(x6_1:Int):=of_decide_eq_true (Z19)
       have q5:x6_1<(a0.size:Int):=of_decide_eq_true (Z19)
       have hx5:=bt_at a0 x6_1
       replace p5:=eq_true p5
       replace q5:=eq_true q5
       go_wp2
       go_roundg k1
       case measure=>have:=HK1.out;omega
       case rel=>exact⟨(wrap64 (x6_1+1)),(Z17),H',⟨Z20⟩,Z18⟩
      ·rw[if_neg c6]at H
       have c6b0:(((bt a0 x6_1) / 64)==2)=false:=beq_eq_false_iff_ne.mpr c6
       have c6b1:(((bt a0 x6_1) / 64) != 2)=true:=bne_iff_ne.mpr c6
       obtain rfl:=Option.some.inj H
       have p5:0≤(x6_1:Int):=of_decide_eq_true (Z19)
       have q5:x6_1<(a0.size:Int):=of_decide_eq_true (Z19)
       have hx5:=bt_at a0 x6_1
       replace p5:=eq_true p5
       replace q5:=eq_true q5
       go_wp2
       go_ret
       exact⟨Z17,Z18⟩
     ·rw[if_neg c4]at H
      exact absurd H (by simp)
    ·rw[if_neg c3]at H
     exact absurd H (by simp)
   ·rw[if_neg c2]at H
    have c2b0:=decide_eq_false c2
    clear c2
    obtain rfl:=Option.some.inj H
    go_wp2
    go_ret
    exact⟨Z17,Z18⟩
end Go.Proofs.YtkffhgiiejbnaaaGreat.Rf
