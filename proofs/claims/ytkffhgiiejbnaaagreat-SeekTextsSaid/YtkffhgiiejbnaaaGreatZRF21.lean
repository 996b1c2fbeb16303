import Derived.Test.YtkffhgiiejbnaaaGreatZ01
import Derived.Test.YtkffhgiiejbnaaaGreatZ02
import Derived.Test.YtkffhgiiejbnaaaGreatZRefP
set_option maxRecDepth 100000
set_option maxHeartbeats 8000000
set_option linter.unusedVariables false
set_option linter.unusedSimpArgs false
namespace Go.Proofs.YtkffhgiiejbnaaaGreat.Rf
open Go.RowKit YtkffhgiiejbnaaaGreatW.PrintWords YtkffhgiiejbnaaaGreatW.PrintLast YtkffhgiiejbnaaaGreatW.PrintMore
attribute [local go_sem] max2_int min2_int max_two min_two max_three min_three max_four min_four
mutual
def ligatureref10_Vocab_Encode.l0:Nat->List Int->List Int->List Int->Int->List ByteArray->List (S91)->List (S165)->List (S108)->List (S93)->Option (List Int)
 | 0,_,_,_,_,_,_,_,_,_=>none
 | k+1,x1,x5,x6,x7,x330000,x330001,x330002,x330003,x330004=>if x7≤(x1.length:Int) then (if x7<(x1.length:Int) then (if 0≤x7 then (ligatureref10_Vocab_Encode.j1 k x1 x5 x6 x7 (decide ((rd x1 x7) ≥ 0)) x330000 x330001 x330002 x330003 x330004) else (none)) else (ligatureref10_Vocab_Encode.j1 k x1 x5 x6 x7 false x330000 x330001 x330002 x330003 x330004)) else (some x5)
def ligatureref10_Vocab_Encode.j1:Nat->List Int->List Int->List Int->Int->Bool->List ByteArray->List (S91)->List (S165)->List (S108)->List (S93)->Option (List Int)
 | 0,_,_,_,_,_,_,_,_,_,_=>none
 | k+1,x1,x5,x6,x7,x27,x330000,x330001,x330002,x330003,x330004=>if x27=true then (if 0≤x7 then (if x7<(x1.length:Int) then (if x6.length<140737488355328 then (ligatureref10_Vocab_Encode.l0 k x1 x5 (x6++[(rd x1 x7) % 256]) (wrap64 (x7+1)) x330000 x330001 x330002 x330003 x330004) else (none)) else (none)) else (none)) else ((ligatureref08_Table_Pieces.f k x330002 x330003 (strOfNums x6)).bind fun t338=>(ligatureref10_Vocab_Encode.l1 k x1 x5 x7 t338 0 x330000 x330001 x330002 x330003 x330004))
def ligatureref10_Vocab_Encode.l1:Nat->List Int->List Int->Int->List ByteArray->Int->List ByteArray->List (S91)->List (S165)->List (S108)->List (S93)->Option (List Int)
 | 0,_,_,_,_,_,_,_,_,_,_=>none
 | k+1,x1,x5,x7,x8,x9,x330000,x330001,x330002,x330003,x330004=>if x9<(x8.length:Int) then (if 0≤x9 then ((ligatureref05_All.f k x330000 x330001 (rdOf ByteArray.empty x8 x9)).bind fun t342=>(if x5.length+t342.length<17592186044416 then (ligatureref10_Vocab_Encode.l1 k x1 (x5++t342) x7 x8 (wrap64 (x9+1)) x330000 x330001 x330002 x330003 x330004) else (none))) else (none)) else ((some (([]:List Int):List Int)).bind fun y348=>(if x7<(x1.length:Int) then (if 0≤x7 then (if 0≤(wrap64 ((-1)-(rd x1 x7))) then (if (wrap64 ((-1)-(rd x1 x7)))<(x330004.length:Int) then (if x5.length<17592186044416 then (ligatureref10_Vocab_Encode.l0 k x1 (x5++[(rd_T93 x330004 (wrap64 ((-1)-(rd x1 x7)))).f0]) y348 (wrap64 (x7+1)) x330000 x330001 x330002 x330003 x330004) else (none)) else (none)) else (none)) else (none)) else (ligatureref10_Vocab_Encode.l0 k x1 x5 y348 (wrap64 (x7+1)) x330000 x330001 x330002 x330003 x330004)))
end
def ligatureref10_Vocab_Encode.f (k:Nat) (l0_0:List ByteArray) (l0_1:List (S91)) (l0_2:List (S165)) (l0_3:List (S108)) (l0_4:List (S93)) (l1:List Int):Option (List Int):=ligatureref10_Vocab_Encode.l0 k l1 ([]:List Int) (([]:List Int)) 0 l0_0 l0_1 l0_2 l0_3 l0_4
def ligatureref10_Vocab_Encode.T12:Bool × List (List Nat × List Nat):=(true,[([],[]),([],[]),([1],[1]),([],[]),([],[]),([3,4],[3,4]),([5],[5]),([2,6],[2,6]),([0,7,7],[0,7]),([8,8,0,1,2,3,4,5,6,7,8],[0,8])])
def ligatureref10_Vocab_Encode.B12:List Nat:=[0,0,2,0,0,24,56,126,255,511]
theorem ligatureref10_Vocab_Encode.tab12:rtab .any (opsOf Tryz.f21 12)=ligatureref10_Vocab_Encode.T12:=Z16
theorem ligatureref10_Vocab_Encode.bits12:waitsOk ligatureref10_Vocab_Encode.T12.2 ligatureref10_Vocab_Encode.B12=true:=Z16
def ligatureref10_Vocab_Encode.T15:Bool × List (List Nat × List Nat):=(true,[([],[]),([],[]),([1],[1]),([],[]),([],[]),([3,4],[3,4]),([5],[5]),([6],[6]),([2,7],[2,7]),([8],[8]),([9],[9]),([10],[10]),([0,11],[0,11]),([12,12,0,1,2,3,4,5,6,7,8,9,10,11,12],[0,12])])
def ligatureref10_Vocab_Encode.B15:List Nat:=[0,0,2,0,0,24,56,120,254,510,1022,2046,4095,8191]
theorem ligatureref10_Vocab_Encode.tab15:rtab .any (opsOf Tryz.f21 15)=ligatureref10_Vocab_Encode.T15:=Z16
theorem ligatureref10_Vocab_Encode.bits15:waitsOk ligatureref10_Vocab_Encode.T15.2 ligatureref10_Vocab_Encode.B15=true:=Z16
theorem ligatureref10_Vocab_Encode.calls (k:Nat) (A0_0:Option Addr) (c0_0:Nat) (l0_0:List ByteArray) (A0_1:Option Addr) (c0_1:Nat) (l0_1:List (S91)) (A0_2:Option Addr) (c0_2:Nat) (l0_2:List (S165)) (A0_3:Option Addr) (c0_3:Nat) (l0_3:List (S108)) (A0_4:Option Addr) (c0_4:Nat) (l0_4:List (S93)) (A1:Option Addr) (c1:Nat) (l1:List Int) (r:List Int) (w:World) (hr0_0:Kd.C Kd.string w A0_0 l0_0.length l0_0) (hc0_0:l0_0.length≤c0_0) (hr0_1:Kd.C k91 w A0_1 l0_1.length l0_1) (hc0_1:l0_1.length≤c0_1) (hr0_2:Kd.C k165 w A0_2 l0_2.length l0_2) (hc0_2:l0_2.length≤c0_2) (hr0_3:Kd.C k108 w A0_3 l0_3.length l0_3) (hc0_3:l0_3.length≤c0_3) (hr0_4:Kd.C k93 w A0_4 l0_4.length l0_4) (hc0_4:l0_4.length≤c0_4) (hr1:Kd.C (Kd.int .i64) w A1 l1.length l1) (hc1:l1.length≤c1) (h:ligatureref10_Vocab_Encode.f k l0_0 l0_1 l0_2 l0_3 l0_4 l1=some r) :
  Calls Tryz.prog 21 #[.agg #[.slice A0_0 l0_0.length c0_0,.slice A0_1 l0_1.length c0_1,.slice A0_2 l0_2.length c0_2,.slice A0_3 l0_3.length c0_3,.slice A0_4 l0_4.length c0_4],.slice A1 l1.length c1] w fun e w'=>∃ v0_:Value,e=.returned (v0_)/\Kd.R (Kd.int .i64) 3 w' w.heap.size (fun _=>True) v0_ r/\Below w.heap.size w w':=by
 have hu38:=Tryz.underlying38
 have hu36:=Tryz.underlying36
 have hu34:=Tryz.underlying34
 have HR0_0:=Aside0.mk hr0_0
 have HC0_0:=Aside0.mk hc0_0
 clear hr0_0 hc0_0
 have HR0_1:=Aside0.mk hr0_1
 have HC0_1:=Aside0.mk hc0_1
 clear hr0_1 hc0_1
 have HR0_2:=Aside0.mk hr0_2
 have HC0_2:=Aside0.mk hc0_2
 clear hr0_2 hc0_2
 have HR0_3:=Aside0.mk hr0_3
 have HC0_3:=Aside0.mk hc0_3
 clear hr0_3 hc0_3
 have HR0_4:=Aside0.mk hr0_4
 have HC0_4:=Aside0.mk hc0_4
 clear hr0_4 hc0_4
 have HR1:=Aside0.mk hr1
 have HC1:=Aside0.mk hc1
 clear hr1 hc1
 have HB:=Aside0.mk (Below.refl w.heap.size w)
 have H:(ligatureref10_Vocab_Encode.l0 k l1 ([]:List Int) (([]:List Int)) 0 l0_0 l0_1 l0_2 l0_3 l0_4)=some r:=h
 clear h
 obtain⟨y330,hy330⟩:∃ y_:List Int,y_=(([]:List Int)):=⟨_,rfl⟩
 replace H:(ligatureref10_Vocab_Encode.l0 k l1 ([]:List Int) y330 0 l0_0 l0_1 l0_2 l0_3 l0_4)=some r:=by first|(rw[hy330];with_reducible exact H)|(have H2_:=(Option.bind_some _ _).symm.trans H;rw[hy330];with_reducible exact H2_)|(have H2_:=(Option.bind_some _ _).symm.trans H;with_reducible exact H2_)|with_reducible exact H|(rw[hy330];exact H)|exact H
 have Ny330:=Aside0.mk hy330
 clear hy330
 have H':=Aside0.mk H
 clear H
 go_enter Tryz.func21,Tryz.ntmps21
 go_wp2_with (first|((with_reducible refine gate_dst (N:=2) rfl ?_);refine bxE 2 (#[.slice A0_0 l0_0.length c0_0,.slice A0_1 l0_1.length c0_1,.slice A0_2 l0_2.length c0_2,.slice A0_3 l0_3.length c0_3,.slice A0_4 l0_4.length c0_4]) 38 ?_;intro gb329 hg w3 hbox hb;have BK329:=Aside0.mk (hbox);have GW329:=Aside0.mk ((Z178:w.heap.size≤gb329));have GE329:=GW329;replace HB:=Aside0.mk (below_step (Z21) hb);clear hb hbox hg)|((with_reducible refine gate_dst (N:=10) rfl ?_);refine Kd.R_lit (Kd.int .u8) _ 5 ?hg (N:=10) ?hd (xs:=([]:List Int)) (inner:=[]) (ok:=fun _=>True) (okp:=fun _=>True) ?hr ?hp (fun _ hk=>hk) trivial (Below.refl _ _) (Nat.le_refl _) (by simp) ?_;(case hd=>rfl);(case hg=>rfl);(case hr=>exact Z33);(case hp=>exact(Reps.none _ _));intro v331 w4 ho5 hb hg_ hnew_;clear hg_ hnew_;(first|rw[←Ny330.out]at ho5|(simp only[Int.reduceToNat]at ho5;rw[←Ny330.out]at ho5));have HO332:=Aside0.mk (Kd.R_lower ho5 (below_size (Z153)));replace BK329:=Aside0.mk (blk_below (g:=gb329) (o:=.cells #[.slice A0_0 l0_0.length c0_0,.slice A0_1 l0_1.length c0_1,.slice A0_2 l0_2.length c0_2,.slice A0_3 l0_3.length c0_3,.slice A0_4 l0_4.length c0_4] 38 (0,0)) (Z154) hb);replace HB:=Aside0.mk (below_step (Z153) hb);clear hb ho5))
 go_loopg [5,6,7] k (fun kq v5 v6 v7 w'=>∃ (x5_1:List Int) (x6_1:List Int) (x7_1:Int),v7=.int .i64 x7_1/\Aside0 (ligatureref10_Vocab_Encode.l0 kq l1 x5_1 x6_1 x7_1 l0_0 l0_1 l0_2 l0_3 l0_4=some r)/\Aside0 (kq≤k)/\Aside0 (Kd.R (Kd.int .i64) 3 w' w.heap.size (fun _=>True) v5 x5_1)/\Aside0 (Kd.R (Kd.int .u8) 5 w' w.heap.size (fun _=>True) v6 x6_1)/\Aside0 (w'.heap[gb329]?=some (.cells #[(.slice A0_0 l0_0.length c0_0),(.slice A0_1 l0_1.length c0_1),(.slice A0_2 l0_2.length c0_2),(.slice A0_3 l0_3.length c0_3),(.slice A0_4 l0_4.length c0_4)] 38 (0,0)))/\Aside0 (Below w.heap.size w w'))
 case atStart=>exact⟨(([]:List Int)),(y330),(0),(Z17),H',⟨Nat.le_refl _⟩,⟨Z28⟩,⟨by(with_reducible repeat(first|apply Kd.R_alloc|apply Kd.R_drewN|apply Kd.R_drew));exact HO332.out⟩,⟨Z154⟩,⟨Z153⟩⟩
 case round =>
  clear H'
  try clear c1
  try clear c2
  try clear p2
  obtain⟨x5_1,x6_1,x7_1,rfl,HA,HK1,HO_5,HO_6,BK329,HB⟩:=hrel
  cases gk with
  | zero=>exact absurd HA.out (by simp[ligatureref10_Vocab_Encode.l0])
  | succ k1 =>
   have H:=HA.out
   clear HA
   simp only[ligatureref10_Vocab_Encode.l0]at H
   by_cases c6:x7_1≤(l1.length:Int)
   ·rw[if_pos c6]at H
    have c6b0:=decide_eq_true c6
    clear c6
    have HC7:=Aside0.mk H
    clear H
    go_upto_region 6 with (fail)
    go_cut [27] (fun v27 wc=>∃ (kq:Nat) (x27_6:Bool),v27=.bool x27_6/\Aside0 (ligatureref10_Vocab_Encode.j1 kq l1 x5_1 x6_1 x7_1 x27_6 l0_0 l0_1 l0_2 l0_3 l0_4=some r)/\Aside0 (kq≤k1)/\Aside0 (Kd.R (Kd.int .i64) 3 wc w.heap.size (fun _=>True) u5 x5_1)/\Aside0 (Kd.R (Kd.int .u8) 5 wc w.heap.size (fun _=>True) u6 x6_1)/\Aside0 (wc.heap[gb329]?=some (.cells #[(.slice A0_0 l0_0.length c0_0),(.slice A0_1 l0_1.length c0_1),(.slice A0_2 l0_2.length c0_2),(.slice A0_3 l0_3.length c0_3),(.slice A0_4 l0_4.length c0_4)] 38 (0,0)))/\Aside0 (Below w.heap.size w wc))
    case first =>
     have H:=HC7.out
     clear HC7
     by_cases c8:x7_1<(l1.length:Int)
     ·rw[if_pos c8]at H
      have c8b0:=decide_eq_true c8
      clear c8
      (first|rw[c8b0]|(simp only[i64_w,i32_w];rw[c8b0])|skip)
      by_cases c9:0≤x7_1
      ·rw[if_pos c9]at H
       have c9b0:=decide_eq_true c9
       clear c9
       have H':=Aside0.mk H
       clear H
       have p333:0≤(x7_1:Int):=of_decide_eq_true (Z19)
       have q333:x7_1<(l1.length:Int):=of_decide_eq_true (Z19)
       obtain⟨ad333,e333,hx333_0⟩:=Kd.at_int HR1.out x7_1 p333 q333
       cases e333
       replace hx333_0:=(HB.out.cell (World.block_lt_of_cell? w _ hx333_0)).trans hx333_0
       replace p333:=eq_true p333
       replace q333:=eq_true q333
       go_wp2
       go_meet
       case rel=>exact⟨_,(decide ((rd l1 x7_1) ≥ 0)),(Z17),H',⟨Z43⟩,⟨Z155⟩,⟨Z156⟩,⟨Z154⟩,⟨Z153⟩⟩
      ·rw[if_neg c9]at H
       exact absurd H (by simp)
     ·rw[if_neg c8]at H
      have c8b0:=decide_eq_false c8
      clear c8
      (first|rw[c8b0]|(simp only[i64_w,i32_w];rw[c8b0])|skip)
      have H':=Aside0.mk H
      clear H
      go_wp2
      go_meet
      case rel=>exact⟨_,(false),(Z17),H',⟨Z43⟩,⟨Z155⟩,⟨Z156⟩,⟨Z154⟩,⟨Z153⟩⟩
    case rest =>
     clear HC7
     try clear c1
     try clear c2
     try clear p2
     try clear p3
     try clear q3
     try clear hx3
     try clear c6
     try clear c6b0
     try clear c8
     try clear c8b0
     try clear c9
     try clear c9b0
     try clear hx333_0
     try clear p2
     try clear p333
     try clear q333
     obtain⟨kq,x27_6,rfl,HA,HJ6,HO_5,HO_6,BK329,HB⟩:=hcut
     cases kq with
     | zero=>exact absurd HA.out (by simp[ligatureref10_Vocab_Encode.j1])
     | succ kj6 =>
      have H:=HA.out
      clear HA
      simp only[ligatureref10_Vocab_Encode.j1]at H
      by_cases c10:x27_6=true
      ·subst c10
       have H1:(if 0≤x7_1 then (if x7_1<(l1.length:Int) then (if x6_1.length<140737488355328 then (ligatureref10_Vocab_Encode.l0 kj6 l1 x5_1 (x6_1++[(rd l1 x7_1) % 256]) (wrap64 (x7_1+1)) l0_0 l0_1 l0_2 l0_3 l0_4) else (none)) else (none)) else (none))=some r:=Z36
       clear H
       have H:=H1
       clear H1
       by_cases c11:0≤x7_1
       ·rw[if_pos c11]at H
        have c11b0:=decide_eq_true c11
        clear c11
        by_cases c12:x7_1<(l1.length:Int)
        ·rw[if_pos c12]at H
         have c12b0:=decide_eq_true c12
         clear c12
         by_cases c13:x6_1.length<140737488355328
         ·rw[if_pos c13]at H
          have LMc13:=Aside0.mk c13
          clear c13
          obtain⟨y335,hy335⟩:∃ y_:List Int,y_=(x6_1++[(rd l1 x7_1) % 256]):=⟨_,rfl⟩
          replace H:(ligatureref10_Vocab_Encode.l0 kj6 l1 x5_1 y335 (wrap64 (x7_1+1)) l0_0 l0_1 l0_2 l0_3 l0_4)=some r:=by first|(rw[hy335];with_reducible exact H)|(have H2_:=(Option.bind_some _ _).symm.trans H;rw[hy335];with_reducible exact H2_)|(have H2_:=(Option.bind_some _ _).symm.trans H;with_reducible exact H2_)|with_reducible exact H|(rw[hy335];exact H)|exact H
          have Ny335:=Aside0.mk hy335
          clear hy335
          have H':=Aside0.mk H
          clear H
          have p334:0≤(x7_1:Int):=of_decide_eq_true (Z19)
          have q334:x7_1<(l1.length:Int):=of_decide_eq_true (Z19)
          obtain⟨ad334,e334,hx334_0⟩:=Kd.at_int HR1.out x7_1 p334 q334
          cases e334
          replace hx334_0:=(HB.out.cell (World.block_lt_of_cell? w _ hx334_0)).trans hx334_0
          replace p334:=eq_true p334
          replace q334:=eq_true q334
          go_wp2_with (first|((with_reducible refine gate_builtin (b:=.append) (xs:=#[.tmp 28,.tmp 34]) rfl ?_);at_builtin;refine Kd.R_append (Kd.int .u8) (w0:=w) w.heap.size rfl (.tmp 28) (.tmp 34) 109 5 (.int .u8 0) 1 rfl Tryz.underlying109 info5 rfl (Z32) (Z1) u6 x6_1 ((rd l1 x7_1) % 256) [.int .u8 ((rd l1 x7_1) % 256)] (fun _=>True) (fun _=>False) rfl rfl ?aP (fun _ hk=>hk.elim) ?aF ?aO ?aB ?aS ?aL ?_;(case aP=>exact rfl);(case aB=>exact(Z153));(case aF=>exact Z34);(case aO=>exact(Z156));(case aS=>exact Z192);(case aL=>have:=LMc13.out;omega);intro v336 w14 ho hb hg hat;rw[←Ny335.out]at ho;have n0_:=Aside0.mk (Kd.R_over' (Z155) (Kd.R_typed (Z156)) (Z32) hg);have n1_:=Aside0.mk (blk_grown (g:=gb329) (o:=.cells #[.slice A0_0 l0_0.length c0_0,.slice A0_1 l0_1.length c0_1,.slice A0_2 l0_2.length c0_2,.slice A0_3 l0_3.length c0_3,.slice A0_4 l0_4.length c0_4] 38 (0,0)) (Z154) hg (Kd.R_ne HO_6.out BK329.out (Z32)));have n2_:=Aside0.mk (hb);have n3_:=Aside0.mk (ho);clear HO_5;clear BK329;clear HB;clear HO_6;have HO_5:=n0_;have BK329:=n1_;have HB:=n2_;have HO337:=n3_;clear n0_ n1_ n2_ n3_;clear ho hb hg hat))
          go_roundg kj6
          case measure=>have:=HK1.out;have:=HJ6.out;omega
          case rel=>exact⟨(x5_1),(y335),(wrap64 (x7_1+1)),(Z17),H',⟨by have:=HK1.out;have:=HJ6.out;omega⟩,⟨Z155⟩,⟨by(with_reducible repeat(first|apply Kd.R_alloc|apply Kd.R_drewN|apply Kd.R_drew));exact HO337.out⟩,⟨Z154⟩,⟨Z153⟩⟩
         ·rw[if_neg c13]at H
          exact absurd H (by simp)
        ·rw[if_neg c12]at H
         exact absurd H (by simp)
       ·rw[if_neg c11]at H
        exact absurd H (by simp)
      ·replace c10:=Bool.eq_false_iff.mpr c10
       subst c10
       have H1:((ligatureref08_Table_Pieces.f kj6 l0_2 l0_3 (strOfNums x6_1)).bind fun t338=>(ligatureref10_Vocab_Encode.l1 kj6 l1 x5_1 x7_1 t338 0 l0_0 l0_1 l0_2 l0_3 l0_4))=some r:=Z179
       clear H
       have H:=H1
       clear H1
       replace H:=Option.bind_eq_some_iff.mp H
       obtain⟨t338,A150,H⟩:=H
       replace H:(ligatureref10_Vocab_Encode.l1 kj6 l1 x5_1 x7_1 t338 0 l0_0 l0_1 l0_2 l0_3 l0_4)=some r:=H
       have A15:=Aside0.mk A150
       clear A150
       have H':=Aside0.mk H
       clear H
       have hcz16_0:wc.cell? ⟨gb329,0,none⟩=some (.slice A0_0 l0_0.length c0_0):=(blk_cell BK329.out 0).trans rfl
       have hcz16_1:wc.cell? ⟨gb329,1,none⟩=some (.slice A0_1 l0_1.length c0_1):=(blk_cell BK329.out 1).trans rfl
       have hcz16_2:wc.cell? ⟨gb329,2,none⟩=some (.slice A0_2 l0_2.length c0_2):=(blk_cell BK329.out 2).trans rfl
       have hcz16_3:wc.cell? ⟨gb329,3,none⟩=some (.slice A0_3 l0_3.length c0_3):=(blk_cell BK329.out 3).trans rfl
       have hcz16_4:wc.cell? ⟨gb329,4,none⟩=some (.slice A0_4 l0_4.length c0_4):=(blk_cell BK329.out 4).trans rfl
       have hfz16_0:=blk_frozen BK329.out 0
       have hfz16_1:=blk_frozen BK329.out 1
       have hfz16_2:=blk_frozen BK329.out 2
       have hfz16_3:=blk_frozen BK329.out 3
       have hfz16_4:=blk_frozen BK329.out 4
       have hcv17:=own_string (P:=Tryz.prog) Tryz.underlying109 Tryz.underlying5 Tryz.underlying9 (Kd.own_of_R HO_6.out)
       go_wp2_with (first|((with_reducible refine gate_callee (f:=63) rfl ?_);refine goesL_ (some 40) rfl rfl Tryz.func63 (Z16) rfl #[.agg #[.slice A0_2 l0_2.length c0_2,.slice A0_3 l0_3.length c0_3],.string (strOfNums x6_1)] rfl (Z37) ?_;(with_reducible refine(ligatureref08_Table_Pieces.calls kj6 _ _ l0_2 _ _ l0_3 (strOfNums x6_1) t338 _ ?side1 ?side2 ?side3 ?side4 A15.out).mono ?_);(case side1=>exact Z62);(case side2=>exact HC0_2.out);(case side3=>exact Z63);(case side4=>exact HC0_3.out);rintro e w18 ⟨v339,rfl,ho0,hb⟩;refine⟨_,rfl,?_⟩;have HO340:=Aside0.mk (Kd.R_lower ho0 (below_size (Z153)));replace HO_5:=Aside0.mk (Kd.R_below (Z155) hb);replace HO_6:=Aside0.mk (Kd.R_below (Z156) hb);replace BK329:=Aside0.mk (blk_below (g:=gb329) (o:=.cells #[.slice A0_0 l0_0.length c0_0,.slice A0_1 l0_1.length c0_1,.slice A0_2 l0_2.length c0_2,.slice A0_3 l0_3.length c0_3,.slice A0_4 l0_4.length c0_4] 38 (0,0)) (Z154) hb);replace HB:=Aside0.mk (below_step (Z153) hb);(try clear hb);(try clear hb2);(try clear hk);(try clear hi);(try clear ho0)))
       go_loopg [5,9] kj6 (fun kq v5 v9 w'=>∃ (x5_3:List Int) (x9_3:Int),v9=.int .i64 x9_3/\Aside0 (ligatureref10_Vocab_Encode.l1 kq l1 x5_3 x7_1 t338 x9_3 l0_0 l0_1 l0_2 l0_3 l0_4=some r)/\Aside0 (kq≤kj6)/\Aside0 (Kd.R (Kd.int .i64) 3 w' w.heap.size (fun _=>True) v5 x5_3)/\Aside0 (Kd.R Kd.string 9 w' w.heap.size (fun _=>True) v339 t338)/\Aside0 (w'.heap[gb329]?=some (.cells #[(.slice A0_0 l0_0.length c0_0),(.slice A0_1 l0_1.length c0_1),(.slice A0_2 l0_2.length c0_2),(.slice A0_3 l0_3.length c0_3),(.slice A0_4 l0_4.length c0_4)] 38 (0,0)))/\Aside0 (Below w.heap.size w w'))
       case atStart=>exact⟨(x5_1),(0),(Z17),H',⟨Nat.le_refl _⟩,⟨Z155⟩,⟨by(with_reducible repeat(first|apply Kd.R_alloc|apply Kd.R_drewN|apply Kd.R_drew));exact HO340.out⟩,⟨Z154⟩,⟨Z153⟩⟩
       case round =>
        clear H'
        try clear c1
        try clear hcv1
        try clear c2
        try clear p2
        try clear p3
        try clear q3
        try clear hx3
        try clear c6
        try clear c6b0
        try clear p6
        try clear c8
        try clear c8b0
        try clear c9
        try clear c9b0
        try clear c10
        try clear c11
        try clear c11b0
        try clear c12
        try clear c12b0
        try clear c13
        try clear hcv17
        try clear hcz16_0
        try clear hcz16_1
        try clear hcz16_2
        try clear hcz16_3
        try clear hcz16_4
        try clear hfz16_0
        try clear hfz16_1
        try clear hfz16_2
        try clear hfz16_3
        try clear hfz16_4
        try clear hx333_0
        try clear hx334_0
        try clear p2
        try clear p3
        try clear p333
        try clear p334
        try clear q3
        try clear q333
        try clear q334
        obtain⟨x5_3,x9_3,rfl,HA,HK3,HO_5,HO_8,BK329,HB⟩:=hrel
        cases gk with
        | zero=>exact absurd HA.out (by simp[ligatureref10_Vocab_Encode.l1])
        | succ k3 =>
         have H:=HA.out
         clear HA
         simp only[ligatureref10_Vocab_Encode.l1]at H
         by_cases c19:x9_3<(t338.length:Int)
         ·rw[if_pos c19]at H
          have c19b0:=decide_eq_true c19
          clear c19
          by_cases c20:0≤x9_3
          ·rw[if_pos c20]at H
           have c20b0:=decide_eq_true c20
           clear c20
           replace H:=Option.bind_eq_some_iff.mp H
           obtain⟨t342,A210,H⟩:=H
           replace H:(if x5_3.length+t342.length<17592186044416 then (ligatureref10_Vocab_Encode.l1 k3 l1 (x5_3++t342) x7_1 t338 (wrap64 (x9_3+1)) l0_0 l0_1 l0_2 l0_3 l0_4) else (none))=some r:=H
           have A21:=Aside0.mk A210
           clear A210
           by_cases c22:x5_3.length+t342.length<17592186044416
           ·rw[if_pos c22]at H
            have LMc22:=Aside0.mk c22
            clear c22
            obtain⟨y345,hy345⟩:∃ y_:List Int,y_=(x5_3++t342):=⟨_,rfl⟩
            replace H:(ligatureref10_Vocab_Encode.l1 k3 l1 y345 x7_1 t338 (wrap64 (x9_3+1)) l0_0 l0_1 l0_2 l0_3 l0_4)=some r:=by first|(rw[hy345];with_reducible exact H)|(have H2_:=(Option.bind_some _ _).symm.trans H;rw[hy345];with_reducible exact H2_)|(have H2_:=(Option.bind_some _ _).symm.trans H;with_reducible exact H2_)|with_reducible exact H|(rw[hy345];exact H)|exact H
            have Ny345:=Aside0.mk hy345
            clear hy345
            have H':=Aside0.mk H
            clear H
            obtain⟨Ao23,co23,eo23⟩:=Kd.R_slice HO_8.out
            subst eo23
            try go_wp2
            have n0_:=Aside0.mk (Kd.R_drew HO_5.out)
            have n1_:=Aside0.mk (Kd.R_drew HO_8.out)
            have n2_:=Aside0.mk (blk_drew BK329.out)
            have n3_:=Aside0.mk (below_drew1 HB.out)
            clear HO_5
            clear HO_8
            clear BK329
            clear HB
            have HO_5:=n0_
            have HO_8:=n1_
            have BK329:=n2_
            have HB:=n3_
            clear n0_ n1_ n2_ n3_
            have p341:0≤(x9_3:Int):=of_decide_eq_true (Z19)
            have q341:x9_3<(t338.length:Int):=of_decide_eq_true (Z19)
            obtain⟨ad341,e341,hx341_0⟩:=Kd.at_string (Kd.R_reads' HO_8.out).2.2 x9_3 p341 q341
            cases e341
            replace p341:=eq_true p341
            replace q341:=eq_true q341
            refine start_ (n:=10) (S:=fun w'=>w'.cell? ⟨gb329,0,none⟩=some (.slice A0_0 l0_0.length c0_0)/\w'.cell? ⟨gb329,1,none⟩=some (.slice A0_1 l0_1.length c0_1)/\w'.cell? ⟨gb329,2,none⟩=some (.slice A0_2 l0_2.length c0_2)/\w'.cell? ⟨gb329,3,none⟩=some (.slice A0_3 l0_3.length c0_3)/\w'.cell? ⟨gb329,4,none⟩=some (.slice A0_4 l0_4.length c0_4)/\w'.cell? (ad341.add (x9_3).toNat)=some (.string (rdOf ByteArray.empty t338 x9_3))) (ds:=[8]) #[false,false,false,false,false,false,false,false,false,false] (Z16) rfl rfl ⟨(blk_cell BK329.out 0).trans rfl,(blk_cell BK329.out 1).trans rfl,(blk_cell BK329.out 2).trans rfl,(blk_cell BK329.out 3).trans rfl,(blk_cell BK329.out 4).trans rfl,hx341_0⟩ (fun hHeld=>?_);refine with_tabW ligatureref10_Vocab_Encode.tab12 ligatureref10_Vocab_Encode.bits12 (fun HT_ HW_=>?_)
            generalize wr.drew=w24 at HO_5 HO_8 BK329 HB hx341_0 hHeld ⊢
            refine pure_ (i:=0) (N:=some 47) (v:=?_) (a':=?_) #[true,false,false,false,false,false,false,false,false,false] rfl rfl (any_of HT_.out (Z16)) (fun _ _ _ h=>h) (Or.inl ⟨by rfl,?_⟩) ?_ ?_
            rotate_left
            ·intro w'
             go_simp
             with_reducible rfl
            rotate_left
            ·simp only[Act.put,List.setIfInBounds_toArray,List.set_cons_zero,List.set_cons_succ,i64_w,i32_w]
             rfl
            refine pure_ (i:=1) (N:=some 48) (v:=?_) (a':=?_) #[true,true,false,false,false,false,false,false,false,false] rfl rfl (any_of HT_.out (Z16)) (fun _ _ _ h=>h) (Or.inl ⟨by rfl,?_⟩) ?_ ?_
            rotate_left
            ·intro w'
             go_simp
             with_reducible rfl
            rotate_left
            ·simp only[Act.put,List.setIfInBounds_toArray,List.set_cons_zero,List.set_cons_succ,i64_w,i32_w]
             rfl
            refine pure_ (i:=3) (N:=some 50) (v:=?_) (a':=?_) #[true,true,false,true,false,false,false,false,false,false] rfl rfl (any_of HT_.out (Z16)) (fun _ _ _ h=>h) (Or.inl ⟨by rfl,?_⟩) ?_ ?_
            rotate_left
            ·intro w'
             go_simp
             with_reducible rfl
            rotate_left
            ·simp only[Act.put,List.setIfInBounds_toArray,List.set_cons_zero,List.set_cons_succ,i64_w,i32_w]
             rfl
            refine pure_ (i:=4) (N:=some 51) (v:=?_) (a':=?_) #[true,true,false,true,true,false,false,false,false,false] rfl rfl (any_of HT_.out (Z16)) (fun _ _ _ h=>h) (Or.inl ⟨by rfl,?_⟩) ?_ ?_
            rotate_left
            ·intro w'
             go_simp
             with_reducible rfl
            rotate_left
            ·simp only[Act.put,List.setIfInBounds_toArray,List.set_cons_zero,List.set_cons_succ,i64_w,i32_w]
             rfl
            refine pure_ (i:=5) (N:=some 52) (v:=?_) (a':=?_) #[true,true,false,true,true,true,false,false,false,false] rfl rfl (any_of HT_.out (Z16)) (fun _ _ _ h=>h) (Or.inl ⟨by rfl,?_⟩) ?_ ?_
            rotate_left
            ·intro w'
             go_simp
             with_reducible rfl
            rotate_left
            ·simp only[Act.put,List.setIfInBounds_toArray,List.set_cons_zero,List.set_cons_succ,i64_w,i32_w]
             rfl
            refine take_ (i:=2) (N:=some 49) (v:=?_) (a':=?_) #[true,true,true,true,true,true,false,false,false,false] rfl rfl (take_ofW HT_.out HW_.out (Z16)) (fun _ _ _ h=>h) (Or.inl ⟨by rfl,?_⟩) hHeld ?_ ?_
            rotate_left
            ·rintro w' ⟨s0,s1,s2,s3,s4,s5⟩
             go_simp
             with_reducible rfl
            rotate_left
            ·simp only[Act.put,List.setIfInBounds_toArray,List.set_cons_zero,List.set_cons_succ,i64_w,i32_w]
             rfl
            refine take_ (i:=6) (N:=some 53) (v:=?_) (a':=?_) #[true,true,true,true,true,true,true,false,false,false] rfl rfl (take_ofW HT_.out HW_.out (Z16)) (fun _ _ _ h=>h) (Or.inl ⟨by rfl,?_⟩) hHeld ?_ ?_
            rotate_left
            ·rintro w' ⟨s0,s1,s2,s3,s4,s5⟩
             go_simp
             with_reducible rfl
            rotate_left
            ·simp only[Act.put,List.setIfInBounds_toArray,List.set_cons_zero,List.set_cons_succ,i64_w,i32_w]
             rfl
            refine one_ (i:=7) (N:=some 54) (bs 10 255) rfl rfl (one_of HT_.out (Z16)) (Z32) (fun K hK=>?_)
            refine goes_ Tryz.func64 (Z16) rfl #[.agg #[.slice A0_0 l0_0.length c0_0,.slice A0_1 l0_1.length c0_1],.string (rdOf ByteArray.empty t338 x9_3)] (by rfl) rfl rfl (Z37) ?_
            with_reducible refine(ligatureref05_All.calls k3 _ _ l0_0 _ _ l0_1 (rdOf ByteArray.empty t338 x9_3) t342 _ ?side1 ?side2 ?side3 ?side4 A21.out).mono ?_
            (case side1=>exact Z56)
            (case side2=>exact HC0_0.out)
            (case side3=>exact Z57)
            (case side4=>exact HC0_1.out)
            rintro e w25 ⟨v343,rfl,ho0,hb⟩
            have HS5_:=(hb.cell (World.block_lt_of_cell? _ _ (hHeld.2.2.2.2.2))).trans (hHeld.2.2.2.2.2)
            refine⟨_,rfl,?_⟩
            have n0_:=Aside0.mk (Kd.R_elder' (Z155) (Kd.R_base ho0) hb)
            have n1_:=Aside0.mk (Kd.R_below (Z157) hb)
            have n2_:=Aside0.mk (Kd.R_lower (Kd.R_new' ho0 (Kd.R_lt (Z155))) (below_size (Z153)))
            have n3_:=Aside0.mk (blk_below (g:=gb329) (o:=.cells #[.slice A0_0 l0_0.length c0_0,.slice A0_1 l0_1.length c0_1,.slice A0_2 l0_2.length c0_2,.slice A0_3 l0_3.length c0_3,.slice A0_4 l0_4.length c0_4] 38 (0,0)) (Z154) hb)
            have n4_:=Aside0.mk (below_step (Z153) hb)
            clear HO_5
            clear HO_8
            clear BK329
            clear HB
            have HO_5:=n0_
            have HO_8:=n1_
            have HO344:=n2_
            have BK329:=n3_
            have HB:=n4_
            clear n0_ n1_ n2_ n3_ n4_
            (try clear hb)
            (try clear hb2)
            (try clear hk)
            (try clear hi)
            (try clear ho0)
            obtain⟨Ao27,co27,eo27⟩:=Kd.R_slice HO344.out
            (first|subst eo27|(injection eo27 with f1_ f2_ f3_;have f4_:=f1_.symm;have f5_:=f3_.symm;clear f1_ f2_ f3_;subst f4_;subst f5_))
            refine hK.out _ _ ⟨(blk_cell BK329.out 0).trans rfl,(blk_cell BK329.out 1).trans rfl,(blk_cell BK329.out 2).trans rfl,(blk_cell BK329.out 3).trans rfl,(blk_cell BK329.out 4).trans rfl,HS5_⟩ (fun hHeld=>?_)
            clear hK K
            refine norm_ (a':=?_) ?_ ?_
            rotate_left
            ·show Act.put _ (some 54) _=_
             simp only[Act.put,List.setIfInBounds_toArray,List.set_cons_zero,List.set_cons_succ,i64_w,i32_w]
             rfl
            refine last_ (i:=8) (N:=some 55) (bs 10 511) rfl rfl (one_of HT_.out (Z16)) (Z32) (fun K hK=>?_)
            refine Kd.R_append_rows_step (Kd.int .i64) (w0:=w) w.heap.size (by rfl) (.tmp 47) (.tmp 54) 41 3 (.int .i64 0) 8 rfl Tryz.underlying41 info3 rfl (Z32) (Z1) u5 x5_3 t342 _ _ _ (fun k_=>some k_≠(.slice Ao27 t342.length co27:Value).ownBlock) (fun _=>False) rfl rfl ?aO ?aR (fun _ _ h=>h) (fun _ h=>h.elim) ?aF ?aB ?aS ?aL ?_
            (case aR=>repeat(first|exact(Kd.R_reads' HO344.out).2.2|(with_reducible refine Kd.C_alloc ?_ _)|(with_reducible refine Kd.C_drewN ?_ _)|(with_reducible refine Kd.C_drew ?_)))
            (case aB=>exact(Z153))
            (case aF=>exact(fun k_ hk=>Kd.fresh' (Kd.R_lt (Z158)) k_ hk))
            (case aO=>exact(by(with_reducible repeat(first|apply Kd.R_alloc|apply Kd.R_drewN|apply Kd.R_drew));exact Kd.R_mono HO_5.out (fun _ hk=>hk.2)))
            (case aS=>exact Z192)
            (case aL=>have:=LMc22.out;omega)
            intro v346 w26 ho hb hg hat
            rw[←Ny345.out]at ho
            have n0_:=Aside0.mk (Kd.R_over' (Z157) (Kd.R_typed (Z155)) (Z32) hg)
            have n1_:=Aside0.mk (blk_grown (g:=gb329) (o:=.cells #[.slice A0_0 l0_0.length c0_0,.slice A0_1 l0_1.length c0_1,.slice A0_2 l0_2.length c0_2,.slice A0_3 l0_3.length c0_3,.slice A0_4 l0_4.length c0_4] 38 (0,0)) (Z154) hg (Kd.R_ne HO_5.out BK329.out (Z32)))
            have n2_:=Aside0.mk (Kd.R_after (ok:=(fun _=>True)) (Z158) hg hat)
            have n3_:=Aside0.mk (hb)
            have n4_:=Aside0.mk (ho)
            clear HO_8
            clear BK329
            clear HO344
            clear HB
            clear HO_5
            have HO_8:=n0_
            have BK329:=n1_
            have HO344:=n2_
            have HB:=n3_
            have HO347:=n4_
            clear n0_ n1_ n2_ n3_ n4_
            clear ho hb hg hat
            refine hK.out _ _ ?_
            clear hK K
            refine norm_ (a':=?_) ?_ ?_
            rotate_left
            ·show Act.put _ (some 55) _=_
             simp only[Act.put,List.setIfInBounds_toArray,List.set_cons_zero,List.set_cons_succ,i64_w,i32_w]
             rfl
            refine pure_ (i:=9) (N:=some 5) (v:=?_) (a':=?_) #[true,true,true,true,true,true,true,true,true,true] rfl rfl (any_of HT_.out (Z16)) (fun _ _ _ h=>h) (Or.inl ⟨by rfl,?_⟩) ?_ ?_
            rotate_left
            ·intro w'
             go_simp
             with_reducible rfl
            rotate_left
            ·simp only[Act.put,List.setIfInBounds_toArray,List.set_cons_zero,List.set_cons_succ,i64_w,i32_w]
             rfl
            refine done_ (done_of HT_.out (Z16)) ?_
            try go_wp2
            go_roundg k3
            case measure=>have:=HK1.out;have:=HJ6.out;have:=HK3.out;omega
            case rel=>exact⟨(y345),(wrap64 (x9_3+1)),(Z17),H',⟨Z159⟩,⟨by(with_reducible repeat(first|apply Kd.R_alloc|apply Kd.R_drewN|apply Kd.R_drew));exact Kd.R_mono HO347.out (fun _ hk=>trivial)⟩,⟨Z157⟩,⟨Z154⟩,⟨Z153⟩⟩
           ·rw[if_neg c22]at H
            exact absurd H (by simp)
          ·rw[if_neg c20]at H
           exact absurd H (by simp)
         ·rw[if_neg c19]at H
          have c19b0:=decide_eq_false c19
          clear c19
          obtain⟨y348,hy348⟩:∃ y_:List Int,y_=(([]:List Int)):=⟨_,rfl⟩
          replace H:(if x7_1<(l1.length:Int) then (if 0≤x7_1 then (if 0≤(wrap64 ((-1)-(rd l1 x7_1))) then (if (wrap64 ((-1)-(rd l1 x7_1)))<(l0_4.length:Int) then (if x5_3.length<17592186044416 then (ligatureref10_Vocab_Encode.l0 k3 l1 (x5_3++[(rd_T93 l0_4 (wrap64 ((-1)-(rd l1 x7_1)))).f0]) y348 (wrap64 (x7_1+1)) l0_0 l0_1 l0_2 l0_3 l0_4) else (none)) else (none)) else (none)) else (none)) else (ligatureref10_Vocab_Encode.l0 k3 l1 x5_3 y348 (wrap64 (x7_1+1)) l0_0 l0_1 l0_2 l0_3 l0_4))=some r:=by first|(rw[hy348];with_reducible exact H)|(have H2_:=(Option.bind_some _ _).symm.trans H;rw[hy348];with_reducible exact H2_)|(have H2_:=(Option.bind_some _ _).symm.trans H;with_reducible exact H2_)|with_reducible exact H|(rw[hy348];exact H)|exact H
          have Ny348:=Aside0.mk hy348
          clear hy348
          by_cases c28:x7_1<(l1.length:Int)
          ·rw[if_pos c28]at H
           have c28b0:=decide_eq_true c28
           clear c28
           by_cases c29:0≤x7_1
           ·rw[if_pos c29]at H
            have c29b0:=decide_eq_true c29
            clear c29
            obtain⟨ji30,hji30⟩:∃ j_:Int,(wrap64 ((-1)-(rd l1 x7_1)))=j_:=⟨_,rfl⟩
            replace H:(if 0≤(ji30) then (if (ji30)<(l0_4.length:Int) then (if x5_3.length<17592186044416 then (ligatureref10_Vocab_Encode.l0 k3 l1 (x5_3++[(rd_T93 l0_4 (ji30)).f0]) y348 (wrap64 (x7_1+1)) l0_0 l0_1 l0_2 l0_3 l0_4) else (none)) else (none)) else (none))=some r:=by first|(rw[hji30]at H;exact H)|(simp only[hji30]at H ⊢;exact H)
            have hji30w:(IntKind.i64.wrap ((-1)-(rd l1 x7_1)))=ji30:=(i64_w _).trans hji30
            by_cases c31:0≤(ji30)
            ·rw[if_pos c31]at H
             have c31b0:=decide_eq_true c31
             clear c31
             by_cases c32:(ji30)<(l0_4.length:Int)
             ·rw[if_pos c32]at H
              have c32b0:=decide_eq_true c32
              clear c32
              by_cases c33:x5_3.length<17592186044416
              ·rw[if_pos c33]at H
               have LMc33:=Aside0.mk c33
               clear c33
               obtain⟨y353,hy353⟩:∃ y_:List Int,y_=(x5_3++[(rd_T93 l0_4 (ji30)).f0]):=⟨_,rfl⟩
               replace H:(ligatureref10_Vocab_Encode.l0 k3 l1 y353 y348 (wrap64 (x7_1+1)) l0_0 l0_1 l0_2 l0_3 l0_4)=some r:=by first|(rw[hy353];with_reducible exact H)|(have H2_:=(Option.bind_some _ _).symm.trans H;rw[hy353];with_reducible exact H2_)|(have H2_:=(Option.bind_some _ _).symm.trans H;with_reducible exact H2_)|with_reducible exact H|(rw[hy353];exact H)|exact H
               have Ny353:=Aside0.mk hy353
               clear hy353
               have H':=Aside0.mk H
               clear H
               obtain⟨Ao34,co34,eo34⟩:=Kd.R_slice HO_8.out
               subst eo34
               try go_wp2_with (first|((with_reducible refine gate_dst (N:=56) rfl ?_);refine Kd.R_lit (Kd.int .u8) _ 5 ?hg (N:=56) ?hd (xs:=([]:List Int)) (inner:=[]) (ok:=fun _=>True) (okp:=fun _=>True) ?hr ?hp (fun _ hk=>hk) trivial (Below.refl _ _) (Nat.le_refl _) (by simp) ?_;(case hd=>rfl);(case hg=>rfl);(case hr=>exact Z33);(case hp=>exact(Reps.none _ _));intro v349 w35 ho36 hb hg_ hnew_;clear hg_ hnew_;(first|rw[←Ny348.out]at ho36|(simp only[Int.reduceToNat]at ho36;rw[←Ny348.out]at ho36));have HO350:=Aside0.mk (Kd.R_lower ho36 (below_size (Z153)));replace HO_5:=Aside0.mk (Kd.R_below (Z155) hb);replace HO_8:=Aside0.mk (Kd.R_below (Z157) hb);replace BK329:=Aside0.mk (blk_below (g:=gb329) (o:=.cells #[.slice A0_0 l0_0.length c0_0,.slice A0_1 l0_1.length c0_1,.slice A0_2 l0_2.length c0_2,.slice A0_3 l0_3.length c0_3,.slice A0_4 l0_4.length c0_4] 38 (0,0)) (Z154) hb);replace HB:=Aside0.mk (below_step (Z153) hb);clear hb ho36))
               have n0_:=Aside0.mk (Kd.R_drew HO_5.out)
               have n1_:=Aside0.mk (Kd.R_drew HO_8.out)
               have n2_:=Aside0.mk (Kd.R_drew HO350.out)
               have n3_:=Aside0.mk (blk_drew BK329.out)
               have n4_:=Aside0.mk (below_drew1 HB.out)
               clear HO_5
               clear HO_8
               clear HO350
               clear BK329
               clear HB
               have HO_5:=n0_
               have HO_8:=n1_
               have HO350:=n2_
               have BK329:=n3_
               have HB:=n4_
               clear n0_ n1_ n2_ n3_ n4_
               have p351:0≤(x7_1:Int):=of_decide_eq_true (Z19)
               have q351:x7_1<(l1.length:Int):=of_decide_eq_true (Z19)
               obtain⟨ad351,e351,hx351_0⟩:=Kd.at_int HR1.out x7_1 p351 q351
               have hw351_0:=hx351_0
               cases e351
               replace hx351_0:=(HB.out.cell (World.block_lt_of_cell? w _ hx351_0)).trans hx351_0
               replace p351:=eq_true p351
               replace q351:=eq_true q351
               have p352:0≤((ji30):Int):=of_decide_eq_true (Z19)
               have q352:(ji30)<(l0_4.length:Int):=of_decide_eq_true (Z19)
               obtain⟨ad352,e352,hx352_0,hx352_1⟩:=at_T93 HR0_4.out (ji30) p352 q352
               have hw352_1:=hx352_1
               have hw352_0:=hx352_0
               cases e352
               replace hx352_0:=(HB.out.cell (World.block_lt_of_cell? w _ hx352_0)).trans hx352_0
               replace hx352_1:=(HB.out.cell (World.block_lt_of_cell? w _ hx352_1)).trans hx352_1
               replace p352:=eq_true p352
               replace q352:=eq_true q352
               refine start_ (n:=14) (S:=fun w'=>w'.cell? ⟨gb329,0,none⟩=some (.slice A0_0 l0_0.length c0_0)/\w'.cell? ⟨gb329,1,none⟩=some (.slice A0_1 l0_1.length c0_1)/\w'.cell? ⟨gb329,2,none⟩=some (.slice A0_2 l0_2.length c0_2)/\w'.cell? ⟨gb329,3,none⟩=some (.slice A0_3 l0_3.length c0_3)/\w'.cell? ⟨gb329,4,none⟩=some (.slice (some ad352) l0_4.length c0_4)/\w'.cell? (ad351.add (x7_1).toNat)=some (.int .i64 (rd l1 x7_1))/\w'.cell? (ad352.add (((ji30)).toNat * 2))=some (.int .i64 ((rd_T93 l0_4 (ji30)).f0))/\w'.cell? ⟨(ad352.add (((ji30)).toNat * 2)).block,(ad352.add (((ji30)).toNat * 2)).off+1,none⟩=some (.string ((rd_T93 l0_4 (ji30)).f1))) (ds:=[]) #[false,false,false,false,false,false,false,false,false,false,false,false,false,false] (Z16) rfl rfl ⟨(blk_cell BK329.out 0).trans rfl,(blk_cell BK329.out 1).trans rfl,(blk_cell BK329.out 2).trans rfl,(blk_cell BK329.out 3).trans rfl,(blk_cell BK329.out 4).trans rfl,((HB.out.cell (World.block_lt_of_cell? w _ hw351_0)).trans hw351_0),((HB.out.cell (World.block_lt_of_cell? w _ hw352_0)).trans hw352_0),((HB.out.cell (World.block_lt_of_cell? w _ hw352_1)).trans hw352_1)⟩ (fun hHeld=>?_);refine with_tabW ligatureref10_Vocab_Encode.tab15 ligatureref10_Vocab_Encode.bits15 (fun HT_ HW_=>?_)
               generalize w35.drew=w37 at HO_5 HO_8 HO350 BK329 HB hx351_0 hx352_0 hx352_1 hHeld ⊢
               refine pure_ (i:=0) (N:=some 61) (v:=?_) (a':=?_) #[true,false,false,false,false,false,false,false,false,false,false,false,false,false] rfl rfl (any_of HT_.out (Z16)) (fun _ _ _ h=>h) (Or.inl ⟨by rfl,?_⟩) ?_ ?_
               rotate_left
               ·intro w'
                go_simp
                with_reducible rfl
               rotate_left
               ·simp only[Act.put,List.setIfInBounds_toArray,List.set_cons_zero,List.set_cons_succ,i64_w,i32_w]
                rfl
               refine pure_ (i:=1) (N:=some 62) (v:=?_) (a':=?_) #[true,true,false,false,false,false,false,false,false,false,false,false,false,false] rfl rfl (any_of HT_.out (Z16)) (fun _ _ _ h=>h) (Or.inl ⟨by rfl,?_⟩) ?_ ?_
               rotate_left
               ·intro w'
                go_simp
                with_reducible rfl
               rotate_left
               ·simp only[Act.put,List.setIfInBounds_toArray,List.set_cons_zero,List.set_cons_succ,i64_w,i32_w]
                rfl
               refine pure_ (i:=3) (N:=some 64) (v:=?_) (a':=?_) #[true,true,false,true,false,false,false,false,false,false,false,false,false,false] rfl rfl (any_of HT_.out (Z16)) (fun _ _ _ h=>h) (Or.inl ⟨by rfl,?_⟩) ?_ ?_
               rotate_left
               ·intro w'
                go_simp
                with_reducible rfl
               rotate_left
               ·simp only[Act.put,List.setIfInBounds_toArray,List.set_cons_zero,List.set_cons_succ,i64_w,i32_w]
                rfl
               refine pure_ (i:=4) (N:=some 65) (v:=?_) (a':=?_) #[true,true,false,true,true,false,false,false,false,false,false,false,false,false] rfl rfl (any_of HT_.out (Z16)) (fun _ _ _ h=>h) (Or.inl ⟨by rfl,?_⟩) ?_ ?_
               rotate_left
               ·intro w'
                go_simp
                with_reducible rfl
               rotate_left
               ·simp only[Act.put,List.setIfInBounds_toArray,List.set_cons_zero,List.set_cons_succ,i64_w,i32_w]
                rfl
               refine pure_ (i:=5) (N:=some 66) (v:=?_) (a':=?_) #[true,true,false,true,true,true,false,false,false,false,false,false,false,false] rfl rfl (any_of HT_.out (Z16)) (fun _ _ _ h=>h) (Or.inl ⟨by rfl,?_⟩) ?_ ?_
               rotate_left
               ·intro w'
                go_simp
                with_reducible rfl
               rotate_left
               ·simp only[Act.put,List.setIfInBounds_toArray,List.set_cons_zero,List.set_cons_succ,i64_w,i32_w]
                rfl
               refine take_ (i:=2) (N:=some 63) (v:=?_) (a':=?_) #[true,true,true,true,true,true,false,false,false,false,false,false,false,false] rfl rfl (take_ofW HT_.out HW_.out (Z16)) (fun _ _ _ h=>h) (Or.inl ⟨by rfl,?_⟩) hHeld ?_ ?_
               rotate_left
               ·rintro w' ⟨s0,s1,s2,s3,s4,s5,s6,s7⟩
                go_simp
                with_reducible rfl
               rotate_left
               ·simp only[Act.put,List.setIfInBounds_toArray,List.set_cons_zero,List.set_cons_succ,i64_w,i32_w]
                rfl
               refine take_ (i:=6) (N:=some 67) (v:=?_) (a':=?_) #[true,true,true,true,true,true,true,false,false,false,false,false,false,false] rfl rfl (take_ofW HT_.out HW_.out (Z16)) (fun _ _ _ h=>h) (Or.inl ⟨by rfl,?_⟩) hHeld ?_ ?_
               rotate_left
               ·rintro w' ⟨s0,s1,s2,s3,s4,s5,s6,s7⟩
                go_simp
                with_reducible rfl
               rotate_left
               ·simp only[Act.put,List.setIfInBounds_toArray,List.set_cons_zero,List.set_cons_succ,i64_w,i32_w]
                rfl
               refine pure_ (i:=7) (N:=some 68) (v:=?_) (a':=?_) #[true,true,true,true,true,true,true,true,false,false,false,false,false,false] rfl rfl (any_of HT_.out (Z16)) (fun _ _ _ h=>h) (Or.inl ⟨by rfl,?_⟩) ?_ ?_
               rotate_left
               ·intro w'
                go_simp
                with_reducible rfl
               rotate_left
               ·simp only[Act.put,List.setIfInBounds_toArray,List.set_cons_zero,List.set_cons_succ,i64_w,i32_w]
                rfl
               refine pure_ (i:=8) (N:=some 69) (v:=?_) (a':=?_) #[true,true,true,true,true,true,true,true,true,false,false,false,false,false] rfl rfl (any_of HT_.out (Z16)) (fun _ _ _ h=>h) (Or.inl ⟨by rfl,?_⟩) ?_ ?_
               rotate_left
               ·intro w'
                go_simp
                with_reducible rfl
               rotate_left
               ·simp only[Act.put,List.setIfInBounds_toArray,List.set_cons_zero,List.set_cons_succ,i64_w,i32_w]
                rfl
               refine pure_ (i:=9) (N:=some 70) (v:=?_) (a':=?_) #[true,true,true,true,true,true,true,true,true,true,false,false,false,false] rfl rfl (any_of HT_.out (Z16)) (fun _ _ _ h=>h) (Or.inl ⟨by rfl,?_⟩) ?_ ?_
               rotate_left
               ·intro w'
                go_simp
                with_reducible rfl
               rotate_left
               ·simp only[Act.put,List.setIfInBounds_toArray,List.set_cons_zero,List.set_cons_succ,i64_w,i32_w]
                rfl
               refine take_ (i:=10) (N:=some 71) (v:=?_) (a':=?_) #[true,true,true,true,true,true,true,true,true,true,true,false,false,false] rfl rfl (take_ofW HT_.out HW_.out (Z16)) (fun _ _ _ h=>h) (Or.inl ⟨by rfl,?_⟩) hHeld ?_ ?_
               rotate_left
               ·rintro w' ⟨s0,s1,s2,s3,s4,s5,s6,s7⟩
                go_simp
                with_reducible rfl
               rotate_left
               ·simp only[Act.put,List.setIfInBounds_toArray,List.set_cons_zero,List.set_cons_succ,i64_w,i32_w]
                rfl
               refine one_ (i:=11) (N:=some 72) (bs 14 4095) rfl rfl (one_of HT_.out (Z16)) (Z32) (fun K hK=>?_)
               refine value_ (w1:=?_) (v:=?_) (by rfl) rfl ?_ ?_
               rotate_left 2
               ·go_simp
                constructor
                ·rfl
                ·rfl
               refine hK.out _ _ ⟨(blk_cell (blk_alloc BK329.out _) 0).trans rfl,(blk_cell (blk_alloc BK329.out _) 1).trans rfl,(blk_cell (blk_alloc BK329.out _) 2).trans rfl,(blk_cell (blk_alloc BK329.out _) 3).trans rfl,(blk_cell (blk_alloc BK329.out _) 4).trans rfl,(World.cell?_alloc_lt _ _ _ (World.block_lt_of_cell? _ _ (((HB.out.cell (World.block_lt_of_cell? w _ hw351_0)).trans hw351_0)))).trans (((HB.out.cell (World.block_lt_of_cell? w _ hw351_0)).trans hw351_0)),(World.cell?_alloc_lt _ _ _ (World.block_lt_of_cell? _ _ (((HB.out.cell (World.block_lt_of_cell? w _ hw352_0)).trans hw352_0)))).trans (((HB.out.cell (World.block_lt_of_cell? w _ hw352_0)).trans hw352_0)),(World.cell?_alloc_lt _ _ _ (World.block_lt_of_cell? _ _ (((HB.out.cell (World.block_lt_of_cell? w _ hw352_1)).trans hw352_1)))).trans (((HB.out.cell (World.block_lt_of_cell? w _ hw352_1)).trans hw352_1))⟩ (fun hHeld=>?_)
               clear hK K
               refine norm_ (a':=?_) ?_ ?_
               rotate_left
               ·show Act.put _ (some 72) _=_
                simp only[Act.put,List.setIfInBounds_toArray,List.set_cons_zero,List.set_cons_succ,i64_w,i32_w]
                rfl
               refine one_ (i:=12) (N:=some 73) (bs 14 8191) rfl rfl (one_of HT_.out (Z16)) (Z32) (fun K hK=>?_)
               refine Kd.R_append_step (Kd.int .i64) (w0:=w) w.heap.size (by rfl) (.tmp 61) (.tmp 72) 41 3 (.int .i64 0) 8 rfl Tryz.underlying41 info3 rfl (Z32) (Z1) u5 x5_3 ((rd_T93 l0_4 (ji30)).f0) [.int .i64 ((rd_T93 l0_4 (ji30)).f0)] (fun _=>True) (fun _=>False) rfl rfl ?aP (fun _ hk=>hk.elim) ?aF ?aO ?aB ?aS ?aL ?_
               (case aP=>exact rfl)
               (case aB=>exact(Z153))
               (case aF=>exact Z34)
               (case aO=>exact(Z155))
               (case aS=>exact Z192)
               (case aL=>have:=LMc33.out;omega)
               intro v354 w38 ho hb hg hat
               rw[←Ny353.out]at ho
               have n0_:=Aside0.mk (Kd.R_over' (Z157) (Kd.R_typed (Z155)) (Z32) hg)
               have n1_:=Aside0.mk (blk_grown (g:=gb329) (o:=.cells #[.slice A0_0 l0_0.length c0_0,.slice A0_1 l0_1.length c0_1,.slice A0_2 l0_2.length c0_2,.slice A0_3 l0_3.length c0_3,.slice (some ad352) l0_4.length c0_4] 38 (0,0)) (Z154) hg (Kd.R_ne HO_5.out BK329.out (Z32)))
               have n2_:=Aside0.mk (Kd.R_over' (Z160) (Kd.R_typed (Z155)) (Z32) hg)
               have n3_:=Aside0.mk (hb)
               have n4_:=Aside0.mk (ho)
               clear HO_8
               clear BK329
               clear HO350
               clear HB
               clear HO_5
               have HO_8:=n0_
               have BK329:=n1_
               have HO350:=n2_
               have HB:=n3_
               have HO355:=n4_
               clear n0_ n1_ n2_ n3_ n4_
               clear ho hb hg hat
               refine hK.out _ _ ⟨(blk_cell BK329.out 0).trans rfl,(blk_cell BK329.out 1).trans rfl,(blk_cell BK329.out 2).trans rfl,(blk_cell BK329.out 3).trans rfl,(blk_cell BK329.out 4).trans rfl,((HB.out.cell (World.block_lt_of_cell? w _ hw351_0)).trans hw351_0),((HB.out.cell (World.block_lt_of_cell? w _ hw352_0)).trans hw352_0),((HB.out.cell (World.block_lt_of_cell? w _ hw352_1)).trans hw352_1)⟩ (fun hHeld=>?_)
               clear hK K
               refine norm_ (a':=?_) ?_ ?_
               rotate_left
               ·show Act.put _ (some 73) _=_
                simp only[Act.put,List.setIfInBounds_toArray,List.set_cons_zero,List.set_cons_succ,i64_w,i32_w]
                rfl
               refine pure_ (i:=13) (N:=some 5) (v:=?_) (a':=?_) #[true,true,true,true,true,true,true,true,true,true,true,true,true,true] rfl rfl (any_of HT_.out (Z16)) (fun _ _ _ h=>h) (Or.inl ⟨by rfl,?_⟩) ?_ ?_
               rotate_left
               ·intro w'
                go_simp
                with_reducible rfl
               rotate_left
               ·simp only[Act.put,List.setIfInBounds_toArray,List.set_cons_zero,List.set_cons_succ,i64_w,i32_w]
                rfl
               refine done_ (done_of HT_.out (Z16)) ?_
               try go_wp2
               go_roundg k3
               case measure=>have:=HK1.out;have:=HJ6.out;have:=HK3.out;omega
               case rel=>exact⟨(y353),(y348),(wrap64 (x7_1+1)),(Z17),H',⟨Z159⟩,⟨by(with_reducible repeat(first|apply Kd.R_alloc|apply Kd.R_drewN|apply Kd.R_drew));exact HO355.out⟩,⟨Z160⟩,⟨Z154⟩,⟨Z153⟩⟩
              ·rw[if_neg c33]at H
               exact absurd H (by simp)
             ·rw[if_neg c32]at H
              exact absurd H (by simp)
            ·rw[if_neg c31]at H
             exact absurd H (by simp)
           ·rw[if_neg c29]at H
            exact absurd H (by simp)
          ·rw[if_neg c28]at H
           have c28b0:=decide_eq_false c28
           clear c28
           have H':=Aside0.mk H
           clear H
           obtain⟨Ao39,co39,eo39⟩:=Kd.R_slice HO_8.out
           subst eo39
           go_wp2_with (first|((with_reducible refine gate_dst (N:=56) rfl ?_);refine Kd.R_lit (Kd.int .u8) _ 5 ?hg (N:=56) ?hd (xs:=([]:List Int)) (inner:=[]) (ok:=fun _=>True) (okp:=fun _=>True) ?hr ?hp (fun _ hk=>hk) trivial (Below.refl _ _) (Nat.le_refl _) (by simp) ?_;(case hd=>rfl);(case hg=>rfl);(case hr=>exact Z33);(case hp=>exact(Reps.none _ _));intro v349 w40 ho41 hb hg_ hnew_;clear hg_ hnew_;(first|rw[←Ny348.out]at ho41|(simp only[Int.reduceToNat]at ho41;rw[←Ny348.out]at ho41));have HO350:=Aside0.mk (Kd.R_lower ho41 (below_size (Z153)));replace HO_5:=Aside0.mk (Kd.R_below (Z155) hb);replace HO_8:=Aside0.mk (Kd.R_below (Z157) hb);replace BK329:=Aside0.mk (blk_below (g:=gb329) (o:=.cells #[.slice A0_0 l0_0.length c0_0,.slice A0_1 l0_1.length c0_1,.slice A0_2 l0_2.length c0_2,.slice A0_3 l0_3.length c0_3,.slice A0_4 l0_4.length c0_4] 38 (0,0)) (Z154) hb);replace HB:=Aside0.mk (below_step (Z153) hb);clear hb ho41))
           go_roundg k3
           case measure=>have:=HK1.out;have:=HJ6.out;have:=HK3.out;omega
           case rel=>exact⟨(x5_3),(y348),(wrap64 (x7_1+1)),(Z17),H',⟨Z159⟩,⟨Z155⟩,⟨Z160⟩,⟨Z154⟩,⟨Z153⟩⟩
   ·rw[if_neg c6]at H
    have c6b0:=decide_eq_false c6
    clear c6
    obtain rfl:=Option.some.inj H
    go_wp2
    go_ret
    exact⟨_,Z22,Z155,Z153⟩
end Go.Proofs.YtkffhgiiejbnaaaGreat.Rf
