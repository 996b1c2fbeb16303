import Derived.Test.YtkffhgiiejbnaaaGreatQ01
set_option maxRecDepth 100000
set_option maxHeartbeats 8000000
set_option linter.unusedVariables false
set_option linter.unusedSimpArgs false
namespace Go.Proofs.YtkffhgiiejbnaaaGreat.Rf
open Go.RowKit YtkffhgiiejbnaaaGreatW.PrintWords YtkffhgiiejbnaaaGreatW.PrintLast YtkffhgiiejbnaaaGreatW.PrintMore
attribute [local go_sem] max2_int min2_int max_two min_two max_three min_three max_four min_four
mutual
def ligatureref09_Check.l0:Nat->List (S93)->Int->Option (Int × Int)
 | 0,_,_=>none
 | k+1,x0,x4=>if x4<(x0.length:Int) then (if 0≤x4 then (if ((rd_T93 x0 x4).f0)<0 then (ligatureref09_Check.j1 k x0 x4 true) else (if ((rd_T93 x0 x4).f0)>1073741824 then (ligatureref09_Check.j1 k x0 x4 true) else (if (((rd_T93 x0 x4).f1).size:Int)<1 then (ligatureref09_Check.j1 k x0 x4 true) else (ligatureref09_Check.j1 k x0 x4 (decide ((((rd_T93 x0 x4).f1).size:Int)>64)))))) else (none)) else (some ((x0.length:Int),0))
def ligatureref09_Check.j1:Nat->List (S93)->Int->Bool->Option (Int × Int)
 | 0,_,_,_=>none
 | k+1,x0,x4,x43=>if x43=true then (some (x4,1)) else (if x4 ≥ 32 then (some (x4,3)) else (ligatureref09_Check.l1 k x0 x4 0))
def ligatureref09_Check.l1:Nat->List (S93)->Int->Int->Option (Int × Int)
 | 0,_,_,_=>none
 | k+1,x0,x4,x5=>if x5<x4 then (if 0≤x5 then (if x5<(x0.length:Int) then (if 0≤x4 then (if x4<(x0.length:Int) then (if ((rd_T93 x0 x5).f0)=((rd_T93 x0 x4).f0) then (some (x4,10)) else (if ((rd_T93 x0 x5).f1).toList=((rd_T93 x0 x4).f1).toList then (some (x4,10)) else (ligatureref09_Check.l1 k x0 x4 (wrap64 (x5+1))))) else (none)) else (none)) else (none)) else (none)) else (ligatureref09_Check.l0 k x0 (wrap64 (x4+1)))
end
def ligatureref09_Check.f (k:Nat) (l0:List (S93)):Option (Int × Int):=ligatureref09_Check.l0 k l0 0
theorem ligatureref09_Check.calls (k:Nat) (A0:Option Addr) (c0:Nat) (l0:List (S93)) (r1:Int) (r2:Int) (w:World) (hr0:Kd.C k93 w A0 l0.length l0) (hc0:l0.length≤c0) (h:ligatureref09_Check.f k l0=some (r1,r2)) :
  Calls Tryz.prog 89 #[.slice A0 l0.length c0] w fun e w'=>e=.returned (.tuple #[.int .i64 r1,.int .i64 r2])/\Drawn0 w w':=by
 have HR0:=Aside0.mk hr0
 have HC0:=Aside0.mk hc0
 clear hr0 hc0
 have H:(ligatureref09_Check.l0 k l0 0)=some (r1,r2):=h
 clear h
 have H':=Aside0.mk H
 clear H
 go_enter Tryz.func89,Tryz.ntmps89
 go_wp2
 repeat(go_quiet (fail);try go_wp2)
 go_loopg [4] k (fun kq v4 w'=>∃ (x4_1:Int),v4=.int .i64 x4_1/\Aside0 (ligatureref09_Check.l0 kq l0 x4_1=some (r1,r2))/\Aside0 (kq≤k)/\Drawn0 w w')
 case atStart=>exact⟨(0),(Z16),H',⟨Nat.le_refl _⟩,Z17⟩
 case round =>
  clear H'
  obtain⟨x4_1,rfl,HA,HK1,⟨m1,rfl⟩⟩:=hrel
  cases gk with
  | zero=>exact absurd HA.out (by simp[ligatureref09_Check.l0])
  | succ k1 =>
   have H:=HA.out
   clear HA
   simp only[ligatureref09_Check.l0]at H
   by_cases c2:x4_1<(l0.length:Int)
   ·rw[if_pos c2]at H
    have c2b0:=decide_eq_true c2
    clear c2
    have HC3:=Aside0.mk H
    clear H
    go_upto_region 4 with (fail)
    repeat(go_quiet (fail);go_upto_region 4 with (fail))
    go_cut [43] (fun v43 wc=>∃ (kq:Nat) (x43_2:Bool),v43=.bool x43_2/\Aside0 (ligatureref09_Check.j1 kq l0 x4_1 x43_2=some (r1,r2))/\Aside0 (kq≤k1)/\Drawn0 w wc)
    case first =>
     have H:=HC3.out
     clear HC3
     by_cases c4:0≤x4_1
     ·rw[if_pos c4]at H
      have c4b0:=decide_eq_true c4
      clear c4
      (first|rw[c4b0]|(simp only[i64_w,i32_w];rw[c4b0])|skip)
      by_cases c5:((rd_T93 l0 x4_1).f0)<0
      ·rw[if_pos c5]at H
       have c5b0:=decide_eq_true c5
       clear c5
       have H':=Aside0.mk H
       clear H
       have p200:=eq_true (of_decide_eq_true (Z18):0≤(x4_1:Int))
       have q200:=eq_true (of_decide_eq_true (Z18):x4_1<(l0.length:Int))
       obtain⟨ad200,e200,hx200_0,hx200_1⟩:=at_T93 HR0.out x4_1 (of_eq_true p200) (of_eq_true q200)
       cases e200
       go_wp2
       repeat(go_quiet (fail);try go_wp2)
       go_meet
       case rel=>exact⟨_,(true),(Z16),H',⟨Z41⟩,Z17⟩
      ·rw[if_neg c5]at H
       have c5b0:=decide_eq_false c5
       clear c5
       by_cases c6:((rd_T93 l0 x4_1).f0)>1073741824
       ·rw[if_pos c6]at H
        have c6b0:decide (1073741824<((rd_T93 l0 x4_1).f0))=true:=decide_eq_true c6
        clear c6
        have H':=Aside0.mk H
        clear H
        have p200:=eq_true (of_decide_eq_true (Z18):0≤(x4_1:Int))
        have q200:=eq_true (of_decide_eq_true (Z18):x4_1<(l0.length:Int))
        obtain⟨ad200,e200,hx200_0,hx200_1⟩:=at_T93 HR0.out x4_1 (of_eq_true p200) (of_eq_true q200)
        cases e200
        go_wp2
        repeat(go_quiet (fail);try go_wp2)
        go_meet
        case rel=>exact⟨_,(true),(Z16),H',⟨Z41⟩,Z17⟩
       ·rw[if_neg c6]at H
        have c6b0:decide (1073741824<((rd_T93 l0 x4_1).f0))=false:=decide_eq_false c6
        clear c6
        by_cases c7:(((rd_T93 l0 x4_1).f1).size:Int)<1
        ·rw[if_pos c7]at H
         have c7b0:=decide_eq_true c7
         have c7b1:decide (((rd_T93 l0 x4_1).f1).size<1)=true:=decide_eq_true (Z1)
         clear c7
         have H':=Aside0.mk H
         clear H
         have p200:=eq_true (of_decide_eq_true (Z18):0≤(x4_1:Int))
         have q200:=eq_true (of_decide_eq_true (Z18):x4_1<(l0.length:Int))
         obtain⟨ad200,e200,hx200_0,hx200_1⟩:=at_T93 HR0.out x4_1 (of_eq_true p200) (of_eq_true q200)
         cases e200
         go_wp2
         repeat(go_quiet (fail);try go_wp2)
         go_meet
         case rel=>exact⟨_,(true),(Z16),H',⟨Z41⟩,Z17⟩
        ·rw[if_neg c7]at H
         have c7b0:=decide_eq_false c7
         have c7b1:decide (((rd_T93 l0 x4_1).f1).size<1)=false:=decide_eq_false (Z1)
         clear c7
         have H':=Aside0.mk H
         clear H
         have p200:=eq_true (of_decide_eq_true (Z18):0≤(x4_1:Int))
         have q200:=eq_true (of_decide_eq_true (Z18):x4_1<(l0.length:Int))
         obtain⟨ad200,e200,hx200_0,hx200_1⟩:=at_T93 HR0.out x4_1 (of_eq_true p200) (of_eq_true q200)
         cases e200
         go_wp2
         repeat(go_quiet (fail);try go_wp2)
         go_meet
         case rel=>exact⟨_,(decide ((((rd_T93 l0 x4_1).f1).size:Int)>64)),(Z16),H',⟨Z41⟩,Z17⟩
     ·rw[if_neg c4]at H
      exact absurd H (by simp)
    case rest =>
     clear HC3
     try clear c2
     try clear c2b0
     try clear p2
     try clear q2
     try clear hx2
     try clear c4
     try clear c4b0
     try clear c5
     try clear c5b0
     try clear c6
     try clear c6b0
     try clear c7
     try clear c7b0
     try clear c7b1
     try clear hx200_0
     try clear hx200_1
     try clear hx201_0
     try clear hx201_1
     try clear hx202_0
     try clear hx202_1
     try clear hx203_0
     try clear hx203_1
     try clear p200
     try clear p201
     try clear p202
     try clear p203
     try clear q200
     try clear q201
     try clear q202
     try clear q203
     obtain⟨kq,x43_2,rfl,HA,HJ2,⟨mc2,rfl⟩⟩:=hcut
     cases kq with
     | zero=>exact absurd HA.out (by simp[ligatureref09_Check.j1])
     | succ kj2 =>
      have H:=HA.out
      clear HA
      simp only[ligatureref09_Check.j1]at H
      by_cases c8:x43_2=true
      ·subst c8
       have H1:(some (x4_1,1))=some (r1,r2):=Z34
       clear H
       have H:=H1
       clear H1
       simp only[Option.some.injEq,Prod.mk.injEq]at H
       obtain⟨rfl,rfl⟩:=H
       go_wp2
       repeat(go_quiet (fail);try go_wp2)
       go_ret2
       exact⟨Z16,Z17⟩
      ·replace c8:=Bool.eq_false_iff.mpr c8
       subst c8
       have H1:(if x4_1 ≥ 32 then (some (x4_1,3)) else (ligatureref09_Check.l1 kj2 l0 x4_1 0))=some (r1,r2):=Z176
       clear H
       have H:=H1
       clear H1
       by_cases c9:x4_1 ≥ 32
       ·rw[if_pos c9]at H
        have c9b0:decide (32≤x4_1)=true:=decide_eq_true c9
        clear c9
        simp only[Option.some.injEq,Prod.mk.injEq]at H
        obtain⟨rfl,rfl⟩:=H
        go_wp2
        repeat(go_quiet (fail);try go_wp2)
        go_ret2
        exact⟨Z16,Z17⟩
       ·rw[if_neg c9]at H
        have c9b0:decide (32≤x4_1)=false:=decide_eq_false c9
        clear c9
        have H':=Aside0.mk H
        clear H
        go_wp2
        repeat(go_quiet (fail);try go_wp2)
        go_loopg [5] kj2 (fun kq v5 w'=>∃ (x5_3:Int),v5=.int .i64 x5_3/\Aside0 (ligatureref09_Check.l1 kq l0 x4_1 x5_3=some (r1,r2))/\Aside0 (kq≤kj2)/\Drawn0 w w')
        case atStart=>exact⟨(0),(Z16),H',⟨Nat.le_refl _⟩,Z17⟩
        case round =>
         clear H'
         try clear c2
         try clear c2b0
         try clear p2
         try clear q2
         try clear hx2
         try clear c4
         try clear c4b0
         try clear c5
         try clear c5b0
         try clear c6
         try clear c6b0
         try clear c7
         try clear c7b0
         try clear c7b1
         try clear c8
         try clear c9
         try clear c9b0
         try clear hx200_0
         try clear hx200_1
         try clear hx201_0
         try clear hx201_1
         try clear hx202_0
         try clear hx202_1
         try clear hx203_0
         try clear hx203_1
         try clear p2
         try clear p200
         try clear p201
         try clear p202
         try clear p203
         try clear q2
         try clear q200
         try clear q201
         try clear q202
         try clear q203
         obtain⟨x5_3,rfl,HA,HK3,⟨m3,rfl⟩⟩:=hrel
         cases gk with
         | zero=>exact absurd HA.out (by simp[ligatureref09_Check.l1])
         | succ k3 =>
          have H:=HA.out
          clear HA
          simp only[ligatureref09_Check.l1]at H
          by_cases c10:x5_3<x4_1
          ·rw[if_pos c10]at H
           have c10b0:=decide_eq_true c10
           clear c10
           by_cases c11:0≤x5_3
           ·rw[if_pos c11]at H
            have c11b0:=decide_eq_true c11
            clear c11
            by_cases c12:x5_3<(l0.length:Int)
            ·rw[if_pos c12]at H
             have c12b0:=decide_eq_true c12
             clear c12
             by_cases c13:0≤x4_1
             ·rw[if_pos c13]at H
              have c13b0:=decide_eq_true c13
              clear c13
              by_cases c14:x4_1<(l0.length:Int)
              ·rw[if_pos c14]at H
               have c14b0:=decide_eq_true c14
               clear c14
               by_cases c15:((rd_T93 l0 x5_3).f0)=((rd_T93 l0 x4_1).f0)
               ·rw[if_pos c15]at H
                have c15b0:(((rd_T93 l0 x5_3).f0)==((rd_T93 l0 x4_1).f0))=true:=beq_iff_eq.mpr c15
                have c15b1:(((rd_T93 l0 x5_3).f0) != ((rd_T93 l0 x4_1).f0))=false:=bne_eq_false_iff_eq.mpr c15
                clear c15
                simp only[Option.some.injEq,Prod.mk.injEq]at H
                obtain⟨rfl,rfl⟩:=H
                have p204:=eq_true (of_decide_eq_true (Z18):0≤(x5_3:Int))
                have q204:=eq_true (of_decide_eq_true (Z18):x5_3<(l0.length:Int))
                obtain⟨ad204,e204,hx204_0,hx204_1⟩:=at_T93 HR0.out x5_3 (of_eq_true p204) (of_eq_true q204)
                cases e204
                have p205:=eq_true (of_decide_eq_true (Z18):0≤(x4_1:Int))
                have q205:=eq_true (of_decide_eq_true (Z18):x4_1<(l0.length:Int))
                obtain⟨ad205,e205,hx205_0,hx205_1⟩:=at_T93 HR0.out x4_1 (of_eq_true p205) (of_eq_true q205)
                obtain rfl:ad204=ad205:=(by injection e205)
                go_wp2
                repeat(go_quiet (fail);try go_wp2)
                go_ret2
                exact⟨Z16,Z17⟩
               ·rw[if_neg c15]at H
                have c15b0:(((rd_T93 l0 x5_3).f0)==((rd_T93 l0 x4_1).f0))=false:=beq_eq_false_iff_ne.mpr c15
                have c15b1:(((rd_T93 l0 x5_3).f0) != ((rd_T93 l0 x4_1).f0))=true:=bne_iff_ne.mpr c15
                by_cases c16:((rd_T93 l0 x5_3).f1).toList=((rd_T93 l0 x4_1).f1).toList
                ·rw[if_pos c16]at H
                 have c16b0:(((rd_T93 l0 x5_3).f1).toList==((rd_T93 l0 x4_1).f1).toList)=true:=beq_iff_eq.mpr c16
                 have c16b1:(((rd_T93 l0 x5_3).f1).toList != ((rd_T93 l0 x4_1).f1).toList)=false:=bne_eq_false_iff_eq.mpr c16
                 clear c16
                 simp only[Option.some.injEq,Prod.mk.injEq]at H
                 obtain⟨rfl,rfl⟩:=H
                 have p204:=eq_true (of_decide_eq_true (Z18):0≤(x5_3:Int))
                 have q204:=eq_true (of_decide_eq_true (Z18):x5_3<(l0.length:Int))
                 obtain⟨ad204,e204,hx204_0,hx204_1⟩:=at_T93 HR0.out x5_3 (of_eq_true p204) (of_eq_true q204)
                 cases e204
                 have p205:=eq_true (of_decide_eq_true (Z18):0≤(x4_1:Int))
                 have q205:=eq_true (of_decide_eq_true (Z18):x4_1<(l0.length:Int))
                 obtain⟨ad205,e205,hx205_0,hx205_1⟩:=at_T93 HR0.out x4_1 (of_eq_true p205) (of_eq_true q205)
                 obtain rfl:ad204=ad205:=(by injection e205)
                 go_wp2
                 repeat(go_quiet (fail);try go_wp2)
                 go_ret2
                 exact⟨Z16,Z17⟩
                ·rw[if_neg c16]at H
                 have c16b0:(((rd_T93 l0 x5_3).f1).toList==((rd_T93 l0 x4_1).f1).toList)=false:=beq_eq_false_iff_ne.mpr c16
                 have c16b1:(((rd_T93 l0 x5_3).f1).toList != ((rd_T93 l0 x4_1).f1).toList)=true:=bne_iff_ne.mpr c16
                 have H':=Aside0.mk H
                 clear H
                 have p204:=eq_true (of_decide_eq_true (Z18):0≤(x5_3:Int))
                 have q204:=eq_true (of_decide_eq_true (Z18):x5_3<(l0.length:Int))
                 obtain⟨ad204,e204,hx204_0,hx204_1⟩:=at_T93 HR0.out x5_3 (of_eq_true p204) (of_eq_true q204)
                 cases e204
                 have p205:=eq_true (of_decide_eq_true (Z18):0≤(x4_1:Int))
                 have q205:=eq_true (of_decide_eq_true (Z18):x4_1<(l0.length:Int))
                 obtain⟨ad205,e205,hx205_0,hx205_1⟩:=at_T93 HR0.out x4_1 (of_eq_true p205) (of_eq_true q205)
                 obtain rfl:ad204=ad205:=(by injection e205)
                 go_wp2
                 repeat(go_quiet (fail);try go_wp2)
                 go_roundg k3
                 case measure=>have:=HK1.out;have:=HJ2.out;have:=HK3.out;omega
                 case rel=>exact⟨(wrap64 (x5_3+1)),(Z16),H',⟨Z42⟩,Z17⟩
              ·rw[if_neg c14]at H
               exact absurd H (by simp)
             ·rw[if_neg c13]at H
              exact absurd H (by simp)
            ·rw[if_neg c12]at H
             exact absurd H (by simp)
           ·rw[if_neg c11]at H
            exact absurd H (by simp)
          ·rw[if_neg c10]at H
           have c10b0:=decide_eq_false c10
           clear c10
           have H':=Aside0.mk H
           clear H
           go_wp2
           repeat(go_quiet (fail);try go_wp2)
           go_roundg k3
           case measure=>have:=HK1.out;have:=HJ2.out;have:=HK3.out;omega
           case rel=>exact⟨(wrap64 (x4_1+1)),(Z16),H',⟨Z42⟩,Z17⟩
   ·rw[if_neg c2]at H
    have c2b0:=decide_eq_false c2
    clear c2
    simp only[Option.some.injEq,Prod.mk.injEq]at H
    obtain⟨rfl,rfl⟩:=H
    go_wp2
    repeat(go_quiet (fail);try go_wp2)
    go_ret2
    exact⟨Z16,Z17⟩
end Go.Proofs.YtkffhgiiejbnaaaGreat.Rf
namespace Go.Proofs.YtkffhgiiejbnaaaGreat.Rf
open Go.RowKit YtkffhgiiejbnaaaGreatW.PrintWords YtkffhgiiejbnaaaGreatW.PrintLast YtkffhgiiejbnaaaGreatW.PrintMore
attribute [local go_sem] max2_int min2_int max_two min_two max_three min_three max_four min_four
def mark_Bytes.l0:Nat->ByteArray->List Int->Int->Int->Option (List Int)
 | 0,_,_,_,_=>none
 | k+1,x0,x3,x6,x7=>if x7<x6 then (if 0≤x7 then (if x7<(x0.size:Int) then (if x3.length<17592186044416 then (mark_Bytes.l0 k x0 (x3++[wrap64 (bt x0 x7)]) x6 (wrap64 (x7+1))) else (none)) else (none)) else (none)) else (some x3)
def mark_Bytes.f (k:Nat) (a0:ByteArray):Option (List Int):=mark_Bytes.l0 k a0 ([]:List Int) (a0.size:Int) 0
theorem mark_Bytes.calls (k:Nat) (a0:ByteArray) (r:List Int) (w:World) (h:mark_Bytes.f k a0=some r) :
  Calls Tryz.prog 28 #[.string a0] w fun e w'=>∃ v0_:Value,e=.returned (v0_)/\Kd.R (Kd.int .i64) 3 w' w.heap.size (fun _=>True) v0_ r/\Below w.heap.size w w':=by
 have HB:=Aside0.mk (Below.refl w.heap.size w)
 have H:(mark_Bytes.l0 k a0 ([]:List Int) (a0.size:Int) 0)=some r:=h
 clear h
 have H':=Aside0.mk H
 clear H
 go_enter Tryz.func28,Tryz.ntmps28
 go_wp2
 go_loopg [3,7] k (fun kq v3 v7 w'=>∃ (x3_1:List Int) (x7_1:Int),v7=.int .i64 x7_1/\Aside0 (mark_Bytes.l0 kq a0 x3_1 (a0.size:Int) x7_1=some r)/\Aside0 (kq≤k)/\Aside0 (Kd.R (Kd.int .i64) 3 w' w.heap.size (fun _=>True) v3 x3_1)/\Aside0 (Below w.heap.size w w'))
 case atStart=>exact⟨(([]:List Int)),(0),(Z16),H',⟨Nat.le_refl _⟩,⟨Z27⟩,⟨Z20⟩⟩
 case round =>
  clear H'
  obtain⟨x3_1,x7_1,rfl,HA,HK1,HO_3,HB⟩:=hrel
  cases gk with
  | zero=>exact absurd HA.out (by simp[mark_Bytes.l0])
  | succ k1 =>
   have H:=HA.out
   clear HA
   simp only[mark_Bytes.l0]at H
   by_cases c2:x7_1<(a0.size:Int)
   ·rw[if_pos c2]at H
    have c2b0:=decide_eq_true c2
    clear c2
    by_cases c3:0≤x7_1
    ·rw[if_pos c3]at H
     have c3b0:=decide_eq_true c3
     clear c3
     by_cases c4:x7_1<(a0.size:Int)
     ·rw[if_pos c4]at H
      have c4b0:=decide_eq_true c4
      clear c4
      by_cases c6:x3_1.length<17592186044416
      ·rw[if_pos c6]at H
       have LMc6:=Aside0.mk c6
       clear c6
       obtain⟨y281,hy281⟩:∃ y_:List Int,y_=(x3_1++[wrap64 (bt a0 x7_1)]):=⟨_,rfl⟩
       replace H:(mark_Bytes.l0 k1 a0 y281 (a0.size:Int) (wrap64 (x7_1+1)))=some r:=by first|(rw[hy281];with_reducible exact H)|(have H2_:=(Option.bind_some _ _).symm.trans H;rw[hy281];with_reducible exact H2_)|(have H2_:=(Option.bind_some _ _).symm.trans H;with_reducible exact H2_)|with_reducible exact H|(rw[hy281];exact H)|exact H
       have Ny281:=Aside0.mk hy281
       clear hy281
       have H':=Aside0.mk H
       clear H
       have p5:0≤(x7_1:Int):=of_decide_eq_true (Z18)
       have q5:x7_1<(a0.size:Int):=of_decide_eq_true (Z18)
       have hx5:=bt_at a0 x7_1
       replace p5:=eq_true p5
       replace q5:=eq_true q5
       go_wp2_with (first|((with_reducible refine gate_builtin (b:=.append) (xs:=#[.tmp 10,.tmp 15]) rfl ?_);at_builtin;refine Kd.R_append (Kd.int .i64) (w0:=w) w.heap.size rfl (.tmp 10) (.tmp 15) 41 3 (.int .i64 0) 8 rfl Tryz.underlying41 info3 rfl (Z31) (Z1) u3 x3_1 (wrap64 (bt a0 x7_1)) [.int .i64 (wrap64 (bt a0 x7_1))] (fun _=>True) (fun _=>False) rfl rfl ?aP (fun _ hk=>hk.elim) ?aF ?aO ?aB ?aS ?aL ?_;(case aP=>exact rfl);(case aB=>exact(Z20));(case aF=>exact Z32);(case aO=>exact(Z43));(case aS=>exact Z177);(case aL=>have:=LMc6.out;omega);intro v282 w7 ho hb hg hat;rw[←Ny281.out]at ho;have n0_:=Aside0.mk (hb);have n1_:=Aside0.mk (ho);clear HB;clear HO_3;have HB:=n0_;have HO283:=n1_;clear n0_ n1_;clear ho hb hg hat))
       go_roundg k1
       case measure=>have:=HK1.out;omega
       case rel=>exact⟨(y281),(wrap64 (x7_1+1)),(Z16),H',⟨Z19⟩,⟨by(with_reducible repeat(first|apply Kd.R_alloc|apply Kd.R_drewN|apply Kd.R_drew));exact HO283.out⟩,⟨Z20⟩⟩
      ·rw[if_neg c6]at H
       exact absurd H (by simp)
     ·rw[if_neg c4]at H
      exact absurd H (by simp)
    ·rw[if_neg c3]at H
     exact absurd H (by simp)
   ·rw[if_neg c2]at H
    have c2b0:=decide_eq_false c2
    clear c2
    obtain rfl:=Option.some.inj H
    go_wp2
    go_ret
    exact⟨_,Z21,Z43,Z20⟩
end Go.Proofs.YtkffhgiiejbnaaaGreat.Rf
namespace Go.Proofs.YtkffhgiiejbnaaaGreat.Rf
open Go.RowKit YtkffhgiiejbnaaaGreatW.PrintWords YtkffhgiiejbnaaaGreatW.PrintLast YtkffhgiiejbnaaaGreatW.PrintMore
attribute [local go_sem] max2_int min2_int max_two min_two max_three min_three max_four min_four
def seek_pattern_step.l0:Nat->Int->Int->List Int->List Int->Option (Int)
 | 0,_,_,_,_=>none
 | k+1,x1,x2,x285000,x285001=>if x1>0 then (if x1=(x285000.length:Int) then (if 0≤x1 then (if x1<(x285001.length:Int) then (seek_pattern_step.l0 k (rd x285001 x1) x2 x285000 x285001) else (none)) else (none)) else (if 0≤x1 then (if x1<(x285000.length:Int) then (if (rd x285000 x1)=x2 then (some (wrap64 (x1+1))) else (if x1<(x285001.length:Int) then (seek_pattern_step.l0 k (rd x285001 x1) x2 x285000 x285001) else (none))) else (none)) else (none))) else (if 0≤x1 then (if x1<(x285000.length:Int) then (if (rd x285000 x1)=x2 then (some (wrap64 (x1+1))) else (some x1)) else (none)) else (none))
def seek_pattern_step.f (k:Nat) (l0_0:List Int) (l0_1:List Int) (a1:Int) (a2:Int):Option (Int):=seek_pattern_step.l0 k a1 a2 l0_0 l0_1
theorem seek_pattern_step.calls (k:Nat) (A0_0:Option Addr) (c0_0:Nat) (l0_0:List Int) (A0_1:Option Addr) (c0_1:Nat) (l0_1:List Int) (a1:Int) (a2:Int) (r:Int) (w:World) (hr0_0:Kd.C (Kd.int .i64) w A0_0 l0_0.length l0_0) (hc0_0:l0_0.length≤c0_0) (hr0_1:Kd.C (Kd.int .i64) w A0_1 l0_1.length l0_1) (hc0_1:l0_1.length≤c0_1) (h:seek_pattern_step.f k l0_0 l0_1 a1 a2=some r) :
  Calls Tryz.prog 101 #[.agg #[.slice A0_0 l0_0.length c0_0,.slice A0_1 l0_1.length c0_1],.int .i64 a1,.int .i64 a2] w fun e w'=>e=.returned (.int .i64 r)/\Below w.heap.size w w':=by
 have hu116:=Tryz.underlying116
 have HR0_0:=Aside0.mk hr0_0
 have HC0_0:=Aside0.mk hc0_0
 clear hr0_0 hc0_0
 have HR0_1:=Aside0.mk hr0_1
 have HC0_1:=Aside0.mk hc0_1
 clear hr0_1 hc0_1
 have HB:=Aside0.mk (Below.refl w.heap.size w)
 have H:(seek_pattern_step.l0 k a1 a2 l0_0 l0_1)=some r:=h
 clear h
 have H':=Aside0.mk H
 clear H
 go_enter Tryz.func101,Tryz.ntmps101
 go_wp2_with (first|((with_reducible refine gate_dst (N:=3) rfl ?_);(try(refine gate_guard (by rfl) ?_;dsimp only));refine bxE 3 (#[.slice A0_0 l0_0.length c0_0,.slice A0_1 l0_1.length c0_1]) 116 ?_;intro gb284 hg w4 hbox hb;have BK284:=Aside0.mk (hbox);have GW284:=Aside0.mk ((Z175:w.heap.size≤gb284));have GE284:=GW284;replace HB:=Aside0.mk (below_step (Z20) hb);clear hb hbox hg))
 go_loopg [1] k (fun kq v1 w'=>∃ (x1_1:Int),v1=.int .i64 x1_1/\Aside0 (seek_pattern_step.l0 kq x1_1 a2 l0_0 l0_1=some r)/\Aside0 (kq≤k)/\Aside0 (w'.heap[gb284]?=some (.cells #[(.slice A0_0 l0_0.length c0_0),(.slice A0_1 l0_1.length c0_1)] 116 (0,0)))/\Aside0 (Below w.heap.size w w'))
 case atStart=>exact⟨(a1),(Z16),H',⟨Nat.le_refl _⟩,⟨Z44⟩,⟨Z45⟩⟩
 case round =>
  clear H'
  try clear c1
  try clear p2
  obtain⟨x1_1,rfl,HA,HK1,BK284,HB⟩:=hrel
  cases gk with
  | zero=>exact absurd HA.out (by simp[seek_pattern_step.l0])
  | succ k1 =>
   have H:=HA.out
   clear HA
   simp only[seek_pattern_step.l0]at H
   by_cases c5:x1_1>0
   ·rw[if_pos c5]at H
    have c5b0:decide (0<x1_1)=true:=decide_eq_true c5
    clear c5
    by_cases c6:x1_1=(l0_0.length:Int)
    ·rw[if_pos c6]at H
     have c6b0:(x1_1==(l0_0.length:Int))=true:=beq_iff_eq.mpr c6
     have c6b1:(x1_1 != (l0_0.length:Int))=false:=bne_eq_false_iff_eq.mpr c6
     clear c6
     by_cases c7:0≤x1_1
     ·rw[if_pos c7]at H
      have c7b0:=decide_eq_true c7
      clear c7
      by_cases c8:x1_1<(l0_1.length:Int)
      ·rw[if_pos c8]at H
       have c8b0:=decide_eq_true c8
       clear c8
       have H':=Aside0.mk H
       clear H
       have hcz9_0:wr.cell? ⟨gb284,0,none⟩=some (.slice A0_0 l0_0.length c0_0):=(blk_cell BK284.out 0).trans rfl
       have hcz9_1:wr.cell? ⟨gb284,1,none⟩=some (.slice A0_1 l0_1.length c0_1):=(blk_cell BK284.out 1).trans rfl
       have hfz9_0:=blk_frozen BK284.out 0
       have hfz9_1:=blk_frozen BK284.out 1
       have p285:0≤(x1_1:Int):=of_decide_eq_true (Z18)
       have q285:x1_1<(l0_1.length:Int):=of_decide_eq_true (Z18)
       obtain⟨ad285,e285,hx285_0⟩:=Kd.at_int HR0_1.out x1_1 p285 q285
       cases e285
       replace hx285_0:=(HB.out.cell (World.block_lt_of_cell? w _ hx285_0)).trans hx285_0
       replace p285:=eq_true p285
       replace q285:=eq_true q285
       go_wp2
       go_roundg k1
       case measure=>have:=HK1.out;omega
       case rel=>exact⟨(rd l0_1 x1_1),(Z16),H',⟨Z19⟩,⟨Z44⟩,⟨Z45⟩⟩
      ·rw[if_neg c8]at H
       exact absurd H (by simp)
     ·rw[if_neg c7]at H
      exact absurd H (by simp)
    ·rw[if_neg c6]at H
     have c6b0:(x1_1==(l0_0.length:Int))=false:=beq_eq_false_iff_ne.mpr c6
     have c6b1:(x1_1 != (l0_0.length:Int))=true:=bne_iff_ne.mpr c6
     by_cases c10:0≤x1_1
     ·rw[if_pos c10]at H
      have c10b0:=decide_eq_true c10
      clear c10
      by_cases c11:x1_1<(l0_0.length:Int)
      ·rw[if_pos c11]at H
       have c11b0:=decide_eq_true c11
       clear c11
       by_cases c12:(rd l0_0 x1_1)=a2
       ·rw[if_pos c12]at H
        have c12b0:((rd l0_0 x1_1)==a2)=true:=beq_iff_eq.mpr c12
        have c12b1:((rd l0_0 x1_1) != a2)=false:=bne_eq_false_iff_eq.mpr c12
        clear c12
        obtain rfl:=Option.some.inj H
        have hcz13_0:wr.cell? ⟨gb284,0,none⟩=some (.slice A0_0 l0_0.length c0_0):=(blk_cell BK284.out 0).trans rfl
        have hcz13_1:wr.cell? ⟨gb284,1,none⟩=some (.slice A0_1 l0_1.length c0_1):=(blk_cell BK284.out 1).trans rfl
        have hfz13_0:=blk_frozen BK284.out 0
        have hfz13_1:=blk_frozen BK284.out 1
        have p286:0≤(x1_1:Int):=of_decide_eq_true (Z18)
        have q286:x1_1<(l0_0.length:Int):=of_decide_eq_true (Z18)
        obtain⟨ad286,e286,hx286_0⟩:=Kd.at_int HR0_0.out x1_1 p286 q286
        cases e286
        replace hx286_0:=(HB.out.cell (World.block_lt_of_cell? w _ hx286_0)).trans hx286_0
        replace p286:=eq_true p286
        replace q286:=eq_true q286
        have p287:0≤(x1_1:Int):=of_decide_eq_true (Z18)
        have q287:x1_1<(l0_0.length:Int):=of_decide_eq_true (Z18)
        obtain⟨ad287,e287,hx287_0⟩:=Kd.at_int HR0_0.out x1_1 p287 q287
        obtain rfl:ad286=ad287:=(by injection e287)
        replace hx287_0:=(HB.out.cell (World.block_lt_of_cell? w _ hx287_0)).trans hx287_0
        replace p287:=eq_true p287
        replace q287:=eq_true q287
        go_wp2
        go_ret
        exact⟨Z21,Z45⟩
       ·rw[if_neg c12]at H
        have c12b0:((rd l0_0 x1_1)==a2)=false:=beq_eq_false_iff_ne.mpr c12
        have c12b1:((rd l0_0 x1_1) != a2)=true:=bne_iff_ne.mpr c12
        by_cases c14:x1_1<(l0_1.length:Int)
        ·rw[if_pos c14]at H
         have c14b0:=decide_eq_true c14
         clear c14
         have H':=Aside0.mk H
         clear H
         have hcz15_0:wr.cell? ⟨gb284,0,none⟩=some (.slice A0_0 l0_0.length c0_0):=(blk_cell BK284.out 0).trans rfl
         have hcz15_1:wr.cell? ⟨gb284,1,none⟩=some (.slice A0_1 l0_1.length c0_1):=(blk_cell BK284.out 1).trans rfl
         have hfz15_0:=blk_frozen BK284.out 0
         have hfz15_1:=blk_frozen BK284.out 1
         have p286:0≤(x1_1:Int):=of_decide_eq_true (Z18)
         have q286:x1_1<(l0_0.length:Int):=of_decide_eq_true (Z18)
         obtain⟨ad286,e286,hx286_0⟩:=Kd.at_int HR0_0.out x1_1 p286 q286
         cases e286
         replace hx286_0:=(HB.out.cell (World.block_lt_of_cell? w _ hx286_0)).trans hx286_0
         replace p286:=eq_true p286
         replace q286:=eq_true q286
         have p288:0≤(x1_1:Int):=of_decide_eq_true (Z18)
         have q288:x1_1<(l0_1.length:Int):=of_decide_eq_true (Z18)
         obtain⟨ad288,e288,hx288_0⟩:=Kd.at_int HR0_1.out x1_1 p288 q288
         cases e288
         replace hx288_0:=(HB.out.cell (World.block_lt_of_cell? w _ hx288_0)).trans hx288_0
         replace p288:=eq_true p288
         replace q288:=eq_true q288
         go_wp2
         go_roundg k1
         case measure=>have:=HK1.out;omega
         case rel=>exact⟨(rd l0_1 x1_1),(Z16),H',⟨Z19⟩,⟨Z44⟩,⟨Z45⟩⟩
        ·rw[if_neg c14]at H
         exact absurd H (by simp)
      ·rw[if_neg c11]at H
       exact absurd H (by simp)
     ·rw[if_neg c10]at H
      exact absurd H (by simp)
   ·rw[if_neg c5]at H
    have c5b0:decide (0<x1_1)=false:=decide_eq_false c5
    clear c5
    by_cases c16:0≤x1_1
    ·rw[if_pos c16]at H
     have c16b0:=decide_eq_true c16
     clear c16
     by_cases c17:x1_1<(l0_0.length:Int)
     ·rw[if_pos c17]at H
      have c17b0:=decide_eq_true c17
      clear c17
      by_cases c18:(rd l0_0 x1_1)=a2
      ·rw[if_pos c18]at H
       have c18b0:((rd l0_0 x1_1)==a2)=true:=beq_iff_eq.mpr c18
       have c18b1:((rd l0_0 x1_1) != a2)=false:=bne_eq_false_iff_eq.mpr c18
       clear c18
       obtain rfl:=Option.some.inj H
       have hcz19_0:wr.cell? ⟨gb284,0,none⟩=some (.slice A0_0 l0_0.length c0_0):=(blk_cell BK284.out 0).trans rfl
       have hcz19_1:wr.cell? ⟨gb284,1,none⟩=some (.slice A0_1 l0_1.length c0_1):=(blk_cell BK284.out 1).trans rfl
       have hfz19_0:=blk_frozen BK284.out 0
       have hfz19_1:=blk_frozen BK284.out 1
       have p289:0≤(x1_1:Int):=of_decide_eq_true (Z18)
       have q289:x1_1<(l0_0.length:Int):=of_decide_eq_true (Z18)
       obtain⟨ad289,e289,hx289_0⟩:=Kd.at_int HR0_0.out x1_1 p289 q289
       cases e289
       replace hx289_0:=(HB.out.cell (World.block_lt_of_cell? w _ hx289_0)).trans hx289_0
       replace p289:=eq_true p289
       replace q289:=eq_true q289
       go_wp2
       go_ret
       exact⟨Z21,Z45⟩
      ·rw[if_neg c18]at H
       have c18b0:((rd l0_0 x1_1)==a2)=false:=beq_eq_false_iff_ne.mpr c18
       have c18b1:((rd l0_0 x1_1) != a2)=true:=bne_iff_ne.mpr c18
       obtain rfl:=Option.some.inj H
       have hcz20_0:wr.cell? ⟨gb284,0,none⟩=some (.slice A0_0 l0_0.length c0_0):=(blk_cell BK284.out 0).trans rfl
       have hcz20_1:wr.cell? ⟨gb284,1,none⟩=some (.slice A0_1 l0_1.length c0_1):=(blk_cell BK284.out 1).trans rfl
       have hfz20_0:=blk_frozen BK284.out 0
       have hfz20_1:=blk_frozen BK284.out 1
       have p289:0≤(x1_1:Int):=of_decide_eq_true (Z18)
       have q289:x1_1<(l0_0.length:Int):=of_decide_eq_true (Z18)
       obtain⟨ad289,e289,hx289_0⟩:=Kd.at_int HR0_0.out x1_1 p289 q289
       cases e289
       replace hx289_0:=(HB.out.cell (World.block_lt_of_cell? w _ hx289_0)).trans hx289_0
       replace p289:=eq_true p289
       replace q289:=eq_true q289
       go_wp2
       go_ret
       exact⟨Z21,Z45⟩
     ·rw[if_neg c17]at H
      exact absurd H (by simp)
    ·rw[if_neg c16]at H
     exact absurd H (by simp)
end Go.Proofs.YtkffhgiiejbnaaaGreat.Rf
namespace Go.Proofs.YtkffhgiiejbnaaaGreat.Rf
open Go.RowKit YtkffhgiiejbnaaaGreatW.PrintWords YtkffhgiiejbnaaaGreatW.PrintLast YtkffhgiiejbnaaaGreatW.PrintMore
attribute [local go_sem] max2_int min2_int max_two min_two max_three min_three max_four min_four
def decode_need.f (a0:Int):Option (Int):=if (a0 / 32)=6 then (some 2) else (if (a0 / 16)=14 then (some 3) else (if (a0 / 8)=30 then (some 4) else (some 0)))
theorem decode_need.calls (a0:Int) (r:Int) (w:World) (h:decode_need.f a0=some r) :
  Calls Tryz.prog 74 #[.int .u8 a0] w fun e w'=>e=.returned (.int .i64 r)/\Drawn0 w w':=by
 have H:(if (a0 / 32)=6 then (some 2) else (if (a0 / 16)=14 then (some 3) else (if (a0 / 8)=30 then (some 4) else (some 0))))=some r:=h
 clear h
 by_cases c2:(a0 / 32)=6
 ·rw[if_pos c2]at H
  have c2b0:((a0 / 32)==6)=true:=beq_iff_eq.mpr c2
  have c2b1:((a0 / 32) != 6)=false:=bne_eq_false_iff_eq.mpr c2
  clear c2
  obtain rfl:=Option.some.inj H
  go_enter Tryz.func74,Tryz.ntmps74
  go_wp2
  go_ret
  exact⟨Z16,Z17⟩
 ·rw[if_neg c2]at H
  have c2b0:((a0 / 32)==6)=false:=beq_eq_false_iff_ne.mpr c2
  have c2b1:((a0 / 32) != 6)=true:=bne_iff_ne.mpr c2
  by_cases c3:(a0 / 16)=14
  ·rw[if_pos c3]at H
   have c3b0:((a0 / 16)==14)=true:=beq_iff_eq.mpr c3
   have c3b1:((a0 / 16) != 14)=false:=bne_eq_false_iff_eq.mpr c3
   clear c3
   obtain rfl:=Option.some.inj H
   go_enter Tryz.func74,Tryz.ntmps74
   go_wp2
   go_ret
   exact⟨Z16,Z17⟩
  ·rw[if_neg c3]at H
   have c3b0:((a0 / 16)==14)=false:=beq_eq_false_iff_ne.mpr c3
   have c3b1:((a0 / 16) != 14)=true:=bne_iff_ne.mpr c3
   by_cases c4:(a0 / 8)=30
   ·rw[if_pos c4]at H
    have c4b0:((a0 / 8)==30)=true:=beq_iff_eq.mpr c4
    have c4b1:((a0 / 8) != 30)=false:=bne_eq_false_iff_eq.mpr c4
    clear c4
    obtain rfl:=Option.some.inj H
    go_enter Tryz.func74,Tryz.ntmps74
    go_wp2
    go_ret
    exact⟨Z16,Z17⟩
   ·rw[if_neg c4]at H
    have c4b0:((a0 / 8)==30)=false:=beq_eq_false_iff_ne.mpr c4
    have c4b1:((a0 / 8) != 30)=true:=bne_iff_ne.mpr c4
    obtain rfl:=Option.some.inj H
    go_enter Tryz.func74,Tryz.ntmps74
    go_wp2
    go_ret
    exact⟨Z16,Z17⟩
end Go.Proofs.YtkffhgiiejbnaaaGreat.Rf
namespace Go.Proofs.YtkffhgiiejbnaaaGreat.Rf
open Go.RowKit YtkffhgiiejbnaaaGreatW.PrintWords YtkffhgiiejbnaaaGreatW.PrintLast YtkffhgiiejbnaaaGreatW.PrintMore
attribute [local go_sem] max2_int min2_int max_two min_two max_three min_three max_four min_four
def decode_goes.l0:Nat->ByteArray->Int->Int->Option (Bool)
 | 0,_,_,_=>none
 | k+1,x0,x5,x6=>if x6<x5 then (if 0≤x6 then (if x6<(x0.size:Int) then (if ((bt x0 x6) / 64)=2 then (decode_goes.l0 k x0 x5 (wrap64 (x6+1))) else (some false)) else (none)) else (none)) else (some true)
def decode_goes.f (k:Nat) (a0:ByteArray):Option (Bool):=decode_goes.l0 k a0 (a0.size:Int) 0
theorem decode_goes.calls (k:Nat) (a0:ByteArray) (r:Bool) (w:World) (h:decode_goes.f k a0=some r) :
  Calls Tryz.prog 75 #[.string a0] w fun e w'=>e=.returned (.bool r)/\Drawn0 w w':=by
 have H:(decode_goes.l0 k a0 (a0.size:Int) 0)=some r:=h
 clear h
 have H':=Aside0.mk H
 clear H
 go_enter Tryz.func75,Tryz.ntmps75
 go_wp2
 go_loopg [6] k (fun kq v6 w'=>∃ (x6_1:Int),v6=.int .i64 x6_1/\Aside0 (decode_goes.l0 kq a0 (a0.size:Int) x6_1=some r)/\Aside0 (kq≤k)/\Drawn0 w w')
 case atStart=>exact⟨(0),(Z16),H',⟨Nat.le_refl _⟩,Z17⟩
 case round =>
  clear H'
  obtain⟨x6_1,rfl,HA,HK1,⟨m1,rfl⟩⟩:=hrel
  cases gk with
  | zero=>exact absurd HA.out (by simp[decode_goes.l0])
  | succ k1 =>
   have H:=HA.out
   clear HA
   simp only[decode_goes.l0]at H
   by_cases c2:x6_1<(a0.size:Int)
   ·rw[if_pos c2]at H
    have c2b0:=decide_eq_true c2
    clear c2
    by_cases c3:0≤x6_1
    ·rw[if_pos c3]at H
     have c3b0:=decide_eq_true c3
     clear c3
     by_cases c4:x6_1<(a0.size:Int)
     ·rw[if_pos c4]at H
      have c4b0:=decide_eq_true c4
      clear c4
      by_cases c6:((bt a0 x6_1) / 64)=2
      ·rw[if_pos c6]at H
       have c6b0:(((bt a0 x6_1) / 64)==2)=true:=beq_iff_eq.mpr c6
       have c6b1:(((bt a0 x6_1) / 64) != 2)=false:=bne_eq_false_iff_eq.mpr c6
       clear c6
       have H':=Aside0.mk H
       clear H
       have p5:0≤(x6_1:Int):=of_decide_eq_true (Z18)
       have q5:x6_1<(a0.size:Int):=of_decide_eq_true (Z18)
       have hx5:=bt_at a0 x6_1
       replace p5:=eq_true p5
       replace q5:=eq_true q5
       go_wp2
       go_roundg k1
       case measure=>have:=HK1.out;omega
       case rel=>exact⟨(wrap64 (x6_1+1)),(Z16),H',⟨Z19⟩,Z17⟩
      ·rw[if_neg c6]at H
       have c6b0:(((bt a0 x6_1) / 64)==2)=false:=beq_eq_false_iff_ne.mpr c6
       have c6b1:(((bt a0 x6_1) / 64) != 2)=true:=bne_iff_ne.mpr c6
       obtain rfl:=Option.some.inj H
       have p5:0≤(x6_1:Int):=of_decide_eq_true (Z18)
       have q5:x6_1<(a0.size:Int):=of_decide_eq_true (Z18)
       have hx5:=bt_at a0 x6_1
       replace p5:=eq_true p5
       replace q5:=eq_true q5
       go_wp2
       go_ret
       exact⟨Z16,Z17⟩
     ·rw[if_neg c4]at H
      exact absurd H (by simp)
    ·rw[if_neg c3]at H
     exact absurd H (by simp)
   ·rw[if_neg c2]at H
    have c2b0:=decide_eq_false c2
    clear c2
    obtain rfl:=Option.some.inj H
    go_wp2
    go_ret
    exact⟨Z16,Z17⟩
end Go.Proofs.YtkffhgiiejbnaaaGreat.Rf
namespace Go.Proofs.YtkffhgiiejbnaaaGreat.Rf
open Go.RowKit YtkffhgiiejbnaaaGreatW.PrintWords YtkffhgiiejbnaaaGreatW.PrintLast YtkffhgiiejbnaaaGreatW.PrintMore
attribute [local go_sem] max2_int min2_int max_two min_two max_three min_three max_four min_four
def ligatureref10_Great.f (k:Nat) (l0:List Int) (l1:List (S165)) (l2:List (S108)) (l3:List (S93)):Option (Bool):=if (l0.length:Int)>60 then (some true) else (if (l1.length:Int)>20 then (some true) else (if (l2.length:Int)>20 then (some true) else ((ligatureref09_Great.f k l3).bind fun t102=>(some t102))))
theorem ligatureref10_Great.calls (k:Nat) (A0:Option Addr) (c0:Nat) (l0:List Int) (A1:Option Addr) (c1:Nat) (l1:List (S165)) (A2:Option Addr) (c2:Nat) (l2:List (S108)) (A3:Option Addr) (c3:Nat) (l3:List (S93)) (r:Bool) (w:World) (hr0:Kd.C (Kd.int .u16) w A0 l0.length l0) (hc0:l0.length≤c0) (hr1:Kd.C k165 w A1 l1.length l1) (hc1:l1.length≤c1) (hr2:Kd.C k108 w A2 l2.length l2) (hc2:l2.length≤c2) (hr3:Kd.C k93 w A3 l3.length l3) (hc3:l3.length≤c3) (h:ligatureref10_Great.f k l0 l1 l2 l3=some r) :
  Calls Tryz.prog 49 #[.slice A0 l0.length c0,.slice A1 l1.length c1,.slice A2 l2.length c2,.slice A3 l3.length c3] w fun e w'=>e=.returned (.bool r)/\Drawn0 w w':=by
 have HR0:=Aside0.mk hr0
 have HC0:=Aside0.mk hc0
 clear hr0 hc0
 have HR1:=Aside0.mk hr1
 have HC1:=Aside0.mk hc1
 clear hr1 hc1
 have HR2:=Aside0.mk hr2
 have HC2:=Aside0.mk hc2
 clear hr2 hc2
 have HR3:=Aside0.mk hr3
 have HC3:=Aside0.mk hc3
 clear hr3 hc3
 have H:(if (l0.length:Int)>60 then (some true) else (if (l1.length:Int)>20 then (some true) else (if (l2.length:Int)>20 then (some true) else ((ligatureref09_Great.f k l3).bind fun t102=>(some t102)))))=some r:=h
 clear h
 by_cases c5:(l0.length:Int)>60
 ·rw[if_pos c5]at H
  have c5b0:decide (60<(l0.length:Int))=true:=decide_eq_true c5
  have c5b1:decide (60<l0.length)=true:=decide_eq_true (Z1)
  clear c5
  obtain rfl:=Option.some.inj H
  go_enter Tryz.func49,Tryz.ntmps49
  go_wp2
  go_ret
  exact⟨Z16,Z17⟩
 ·rw[if_neg c5]at H
  have c5b0:decide (60<(l0.length:Int))=false:=decide_eq_false c5
  have c5b1:decide (60<l0.length)=false:=decide_eq_false (Z1)
  clear c5
  by_cases c6:(l1.length:Int)>20
  ·rw[if_pos c6]at H
   have c6b0:decide (20<(l1.length:Int))=true:=decide_eq_true c6
   have c6b1:decide (20<l1.length)=true:=decide_eq_true (Z1)
   clear c6
   obtain rfl:=Option.some.inj H
   go_enter Tryz.func49,Tryz.ntmps49
   go_wp2
   go_ret
   exact⟨Z16,Z17⟩
  ·rw[if_neg c6]at H
   have c6b0:decide (20<(l1.length:Int))=false:=decide_eq_false c6
   have c6b1:decide (20<l1.length)=false:=decide_eq_false (Z1)
   clear c6
   by_cases c7:(l2.length:Int)>20
   ·rw[if_pos c7]at H
    have c7b0:decide (20<(l2.length:Int))=true:=decide_eq_true c7
    have c7b1:decide (20<l2.length)=true:=decide_eq_true (Z1)
    clear c7
    obtain rfl:=Option.some.inj H
    go_enter Tryz.func49,Tryz.ntmps49
    go_wp2
    go_ret
    exact⟨Z16,Z17⟩
   ·rw[if_neg c7]at H
    have c7b0:decide (20<(l2.length:Int))=false:=decide_eq_false c7
    have c7b1:decide (20<l2.length)=false:=decide_eq_false (Z1)
    clear c7
    replace H:=Option.bind_eq_some_iff.mp H
    obtain⟨t102,A80,H⟩:=H
    replace H:(some t102)=some r:=H
    have A8:=Aside0.mk A80
    clear A80
    obtain rfl:=Option.some.inj H
    go_enter Tryz.func49,Tryz.ntmps49
    go_wp2_with (first|(go_at_call 84;(with_reducible refine(ligatureref09_Great.calls k _ _ l3 t102 _ ?side1 ?side2 A8.out).mono ?_);(case side1=>repeat(first|exact HR3.out|(with_reducible refine Kd.C_alloc ?_ _)|(with_reducible refine Kd.C_drewN ?_ _)|(with_reducible refine Kd.C_drew ?_)));(case side2=>exact HC3.out);rintro e w' ⟨rfl,⟨nd,rfl⟩⟩))
    go_ret
    exact⟨Z16,Z17⟩
end Go.Proofs.YtkffhgiiejbnaaaGreat.Rf
namespace Go.Proofs.YtkffhgiiejbnaaaGreat.Rf
open Go.RowKit YtkffhgiiejbnaaaGreatW.PrintWords YtkffhgiiejbnaaaGreatW.PrintLast YtkffhgiiejbnaaaGreatW.PrintMore
attribute [local go_sem] max2_int min2_int max_two min_two max_three min_three max_four min_four
def ligaturelaw12_Great.f (k:Nat) (l0_0:List Int) (l0_1:List (S165)) (l0_2:List (S108)) (l0_3:List (S93)):Option (Int):=(ligatureref10_Great.f k l0_0 l0_1 l0_2 l0_3).bind fun t104=>(if t104=true then (some 1) else (some 0))
theorem ligaturelaw12_Great.calls (k:Nat) (A0_0:Option Addr) (c0_0:Nat) (l0_0:List Int) (A0_1:Option Addr) (c0_1:Nat) (l0_1:List (S165)) (A0_2:Option Addr) (c0_2:Nat) (l0_2:List (S108)) (A0_3:Option Addr) (c0_3:Nat) (l0_3:List (S93)) (r:Int) (w:World) (hr0_0:Kd.C (Kd.int .u16) w A0_0 l0_0.length l0_0) (hc0_0:l0_0.length≤c0_0) (hr0_1:Kd.C k165 w A0_1 l0_1.length l0_1) (hc0_1:l0_1.length≤c0_1) (hr0_2:Kd.C k108 w A0_2 l0_2.length l0_2) (hc0_2:l0_2.length≤c0_2) (hr0_3:Kd.C k93 w A0_3 l0_3.length l0_3) (hc0_3:l0_3.length≤c0_3) (h:ligaturelaw12_Great.f k l0_0 l0_1 l0_2 l0_3=some r) :
  Calls Tryz.prog 13 #[.agg #[.slice A0_0 l0_0.length c0_0,.slice A0_1 l0_1.length c0_1,.slice A0_2 l0_2.length c0_2,.slice A0_3 l0_3.length c0_3]] w fun e w'=>e=.returned (.int .i64 r)/\Below w.heap.size w w':=by
 have hu27:=Tryz.underlying27
 have HR0_0:=Aside0.mk hr0_0
 have HC0_0:=Aside0.mk hc0_0
 clear hr0_0 hc0_0
 have HR0_1:=Aside0.mk hr0_1
 have HC0_1:=Aside0.mk hc0_1
 clear hr0_1 hc0_1
 have HR0_2:=Aside0.mk hr0_2
 have HC0_2:=Aside0.mk hc0_2
 clear hr0_2 hc0_2
 have HR0_3:=Aside0.mk hr0_3
 have HC0_3:=Aside0.mk hc0_3
 clear hr0_3 hc0_3
 have HB:=Aside0.mk (Below.refl w.heap.size w)
 have H:((ligatureref10_Great.f k l0_0 l0_1 l0_2 l0_3).bind fun t104=>(if t104=true then (some 1) else (some 0)))=some r:=h
 clear h
 replace H:=Option.bind_eq_some_iff.mp H
 obtain⟨t104,A20,H⟩:=H
 replace H:(if t104=true then (some 1) else (some 0))=some r:=H
 have A2:=Aside0.mk A20
 clear A20
 by_cases c3:t104=true
 ·subst c3
  have H1:(some 1)=some r:=Z34
  clear H
  have H:=H1
  clear H1
  obtain rfl:=Option.some.inj H
  go_enter Tryz.func13,Tryz.ntmps13
  go_wp2_with (first|((with_reducible refine gate_dst (N:=1) rfl ?_);refine bxE 1 (#[.slice A0_0 l0_0.length c0_0,.slice A0_1 l0_1.length c0_1,.slice A0_2 l0_2.length c0_2,.slice A0_3 l0_3.length c0_3]) 27 ?_;intro gb103 hg w4 hbox hb;have BK103:=Aside0.mk (hbox);have GW103:=Aside0.mk ((Z175:w.heap.size≤gb103));have GE103:=GW103;replace HB:=Aside0.mk (below_step (Z20) hb);clear hb hbox hg;have hcz5_0:w4.cell? ⟨gb103,0,none⟩=some (.slice A0_0 l0_0.length c0_0):=(blk_cell BK103.out 0).trans rfl;have hcz5_1:w4.cell? ⟨gb103,1,none⟩=some (.slice A0_1 l0_1.length c0_1):=(blk_cell BK103.out 1).trans rfl;have hcz5_2:w4.cell? ⟨gb103,2,none⟩=some (.slice A0_2 l0_2.length c0_2):=(blk_cell BK103.out 2).trans rfl;have hcz5_3:w4.cell? ⟨gb103,3,none⟩=some (.slice A0_3 l0_3.length c0_3):=(blk_cell BK103.out 3).trans rfl;have hfz5_0:=blk_frozen BK103.out 0;have hfz5_1:=blk_frozen BK103.out 1;have hfz5_2:=blk_frozen BK103.out 2;have hfz5_3:=blk_frozen BK103.out 3)|((with_reducible refine gate_callee (f:=49) rfl ?_);refine goesL_ (some 11) rfl rfl Tryz.func49 (Z15) rfl #[.slice A0_0 l0_0.length c0_0,.slice A0_1 l0_1.length c0_1,.slice A0_2 l0_2.length c0_2,.slice A0_3 l0_3.length c0_3] rfl (Z35) ?_;(with_reducible refine(ligatureref10_Great.calls k _ _ l0_0 _ _ l0_1 _ _ l0_2 _ _ l0_3 true _ ?side1 ?side2 ?side3 ?side4 ?side5 ?side6 ?side7 ?side8 A2.out).mono ?_);(case side1=>exact Z46);(case side2=>exact HC0_0.out);(case side3=>exact Z47);(case side4=>exact HC0_1.out);(case side5=>exact Z48);(case side6=>exact HC0_2.out);(case side7=>exact Z49);(case side8=>exact HC0_3.out);rintro e w' ⟨rfl,⟨nd,rfl⟩⟩;refine⟨_,rfl,?_⟩))
  go_ret
  exact⟨Z21,Z50⟩
 ·replace c3:=Bool.eq_false_iff.mpr c3
  subst c3
  have H1:(some 0)=some r:=Z176
  clear H
  have H:=H1
  clear H1
  obtain rfl:=Option.some.inj H
  go_enter Tryz.func13,Tryz.ntmps13
  go_wp2_with (first|((with_reducible refine gate_dst (N:=1) rfl ?_);refine bxE 1 (#[.slice A0_0 l0_0.length c0_0,.slice A0_1 l0_1.length c0_1,.slice A0_2 l0_2.length c0_2,.slice A0_3 l0_3.length c0_3]) 27 ?_;intro gb103 hg w6 hbox hb;have BK103:=Aside0.mk (hbox);have GW103:=Aside0.mk ((Z175:w.heap.size≤gb103));have GE103:=GW103;replace HB:=Aside0.mk (below_step (Z20) hb);clear hb hbox hg;have hcz7_0:w6.cell? ⟨gb103,0,none⟩=some (.slice A0_0 l0_0.length c0_0):=(blk_cell BK103.out 0).trans rfl;have hcz7_1:w6.cell? ⟨gb103,1,none⟩=some (.slice A0_1 l0_1.length c0_1):=(blk_cell BK103.out 1).trans rfl;have hcz7_2:w6.cell? ⟨gb103,2,none⟩=some (.slice A0_2 l0_2.length c0_2):=(blk_cell BK103.out 2).trans rfl;have hcz7_3:w6.cell? ⟨gb103,3,none⟩=some (.slice A0_3 l0_3.length c0_3):=(blk_cell BK103.out 3).trans rfl;have hfz7_0:=blk_frozen BK103.out 0;have hfz7_1:=blk_frozen BK103.out 1;have hfz7_2:=blk_frozen BK103.out 2;have hfz7_3:=blk_frozen BK103.out 3)|((with_reducible refine gate_callee (f:=49) rfl ?_);refine goesL_ (some 11) rfl rfl Tryz.func49 (Z15) rfl #[.slice A0_0 l0_0.length c0_0,.slice A0_1 l0_1.length c0_1,.slice A0_2 l0_2.length c0_2,.slice A0_3 l0_3.length c0_3] rfl (Z35) ?_;(with_reducible refine(ligatureref10_Great.calls k _ _ l0_0 _ _ l0_1 _ _ l0_2 _ _ l0_3 false _ ?side1 ?side2 ?side3 ?side4 ?side5 ?side6 ?side7 ?side8 A2.out).mono ?_);(case side1=>exact Z46);(case side2=>exact HC0_0.out);(case side3=>exact Z47);(case side4=>exact HC0_1.out);(case side5=>exact Z48);(case side6=>exact HC0_2.out);(case side7=>exact Z49);(case side8=>exact HC0_3.out);rintro e w' ⟨rfl,⟨nd,rfl⟩⟩;refine⟨_,rfl,?_⟩))
  go_ret
  exact⟨Z21,Z50⟩
end Go.Proofs.YtkffhgiiejbnaaaGreat.Rf
namespace Go.Proofs.YtkffhgiiejbnaaaGreat.Rf
open Go.RowKit YtkffhgiiejbnaaaGreatW.PrintWords YtkffhgiiejbnaaaGreatW.PrintLast YtkffhgiiejbnaaaGreatW.PrintMore
attribute [local go_sem] max2_int min2_int max_two min_two max_three min_three max_four min_four
def ligatureref10_Vocab_Mark.l0:Nat->Int->Int->List ByteArray->List (S91)->List (S165)->List (S108)->List (S93)->Option (Int)
 | 0,_,_,_,_,_,_,_=>none
 | k+1,x1,x5,x292000,x292001,x292002,x292003,x292004=>if x5<(x292004.length:Int) then (if 0≤x5 then (if ((rd_T93 x292004 x5).f0)=x1 then (some (wrap64 ((-1)-x5))) else (ligatureref10_Vocab_Mark.l0 k x1 (wrap64 (x5+1)) x292000 x292001 x292002 x292003 x292004)) else (none)) else (some 0)
def ligatureref10_Vocab_Mark.f (k:Nat) (l0_0:List ByteArray) (l0_1:List (S91)) (l0_2:List (S165)) (l0_3:List (S108)) (l0_4:List (S93)) (a1:Int):Option (Int):=ligatureref10_Vocab_Mark.l0 k a1 0 l0_0 l0_1 l0_2 l0_3 l0_4
theorem ligatureref10_Vocab_Mark.calls (k:Nat) (A0_0:Option Addr) (c0_0:Nat) (l0_0:List ByteArray) (A0_1:Option Addr) (c0_1:Nat) (l0_1:List (S91)) (A0_2:Option Addr) (c0_2:Nat) (l0_2:List (S165)) (A0_3:Option Addr) (c0_3:Nat) (l0_3:List (S108)) (A0_4:Option Addr) (c0_4:Nat) (l0_4:List (S93)) (a1:Int) (r:Int) (w:World) (hr0_0:Kd.C Kd.string w A0_0 l0_0.length l0_0) (hc0_0:l0_0.length≤c0_0) (hr0_1:Kd.C k91 w A0_1 l0_1.length l0_1) (hc0_1:l0_1.length≤c0_1) (hr0_2:Kd.C k165 w A0_2 l0_2.length l0_2) (hc0_2:l0_2.length≤c0_2) (hr0_3:Kd.C k108 w A0_3 l0_3.length l0_3) (hc0_3:l0_3.length≤c0_3) (hr0_4:Kd.C k93 w A0_4 l0_4.length l0_4) (hc0_4:l0_4.length≤c0_4) (h:ligatureref10_Vocab_Mark.f k l0_0 l0_1 l0_2 l0_3 l0_4 a1=some r) :
  Calls Tryz.prog 78 #[.agg #[.slice A0_0 l0_0.length c0_0,.slice A0_1 l0_1.length c0_1,.slice A0_2 l0_2.length c0_2,.slice A0_3 l0_3.length c0_3,.slice A0_4 l0_4.length c0_4],.int .i64 a1] w fun e w'=>e=.returned (.int .i64 r)/\Below w.heap.size w w':=by
 have hu38:=Tryz.underlying38
 have HR0_0:=Aside0.mk hr0_0
 have HC0_0:=Aside0.mk hc0_0
 clear hr0_0 hc0_0
 have HR0_1:=Aside0.mk hr0_1
 have HC0_1:=Aside0.mk hc0_1
 clear hr0_1 hc0_1
 have HR0_2:=Aside0.mk hr0_2
 have HC0_2:=Aside0.mk hc0_2
 clear hr0_2 hc0_2
 have HR0_3:=Aside0.mk hr0_3
 have HC0_3:=Aside0.mk hc0_3
 clear hr0_3 hc0_3
 have HR0_4:=Aside0.mk hr0_4
 have HC0_4:=Aside0.mk hc0_4
 clear hr0_4 hc0_4
 have HB:=Aside0.mk (Below.refl w.heap.size w)
 have H:(ligatureref10_Vocab_Mark.l0 k a1 0 l0_0 l0_1 l0_2 l0_3 l0_4)=some r:=h
 clear h
 have H':=Aside0.mk H
 clear H
 go_enter Tryz.func78,Tryz.ntmps78
 go_wp2_with (first|((with_reducible refine gate_dst (N:=2) rfl ?_);refine bxE 2 (#[.slice A0_0 l0_0.length c0_0,.slice A0_1 l0_1.length c0_1,.slice A0_2 l0_2.length c0_2,.slice A0_3 l0_3.length c0_3,.slice A0_4 l0_4.length c0_4]) 38 ?_;intro gb291 hg w3 hbox hb;have BK291:=Aside0.mk (hbox);have GW291:=Aside0.mk ((Z175:w.heap.size≤gb291));have GE291:=GW291;replace HB:=Aside0.mk (below_step (Z20) hb);clear hb hbox hg))
 go_loopg [5] k (fun kq v5 w'=>∃ (x5_1:Int),v5=.int .i64 x5_1/\Aside0 (ligatureref10_Vocab_Mark.l0 kq a1 x5_1 l0_0 l0_1 l0_2 l0_3 l0_4=some r)/\Aside0 (kq≤k)/\Aside0 (w'.heap[gb291]?=some (.cells #[(.slice A0_0 l0_0.length c0_0),(.slice A0_1 l0_1.length c0_1),(.slice A0_2 l0_2.length c0_2),(.slice A0_3 l0_3.length c0_3),(.slice A0_4 l0_4.length c0_4)] 38 (0,0)))/\Aside0 (Below w.heap.size w w'))
 case atStart=>exact⟨(0),(Z16),H',⟨Nat.le_refl _⟩,⟨Z51⟩,⟨Z52⟩⟩
 case round =>
  clear H'
  try clear p2
  obtain⟨x5_1,rfl,HA,HK1,BK291,HB⟩:=hrel
  cases gk with
  | zero=>exact absurd HA.out (by simp[ligatureref10_Vocab_Mark.l0])
  | succ k1 =>
   have H:=HA.out
   clear HA
   simp only[ligatureref10_Vocab_Mark.l0]at H
   by_cases c4:x5_1<(l0_4.length:Int)
   ·rw[if_pos c4]at H
    have c4b0:=decide_eq_true c4
    clear c4
    by_cases c5:0≤x5_1
    ·rw[if_pos c5]at H
     have c5b0:=decide_eq_true c5
     clear c5
     by_cases c6:((rd_T93 l0_4 x5_1).f0)=a1
     ·rw[if_pos c6]at H
      have c6b0:(((rd_T93 l0_4 x5_1).f0)==a1)=true:=beq_iff_eq.mpr c6
      have c6b1:(((rd_T93 l0_4 x5_1).f0) != a1)=false:=bne_eq_false_iff_eq.mpr c6
      clear c6
      obtain rfl:=Option.some.inj H
      have hcz7_0:wr.cell? ⟨gb291,0,none⟩=some (.slice A0_0 l0_0.length c0_0):=(blk_cell BK291.out 0).trans rfl
      have hcz7_1:wr.cell? ⟨gb291,1,none⟩=some (.slice A0_1 l0_1.length c0_1):=(blk_cell BK291.out 1).trans rfl
      have hcz7_2:wr.cell? ⟨gb291,2,none⟩=some (.slice A0_2 l0_2.length c0_2):=(blk_cell BK291.out 2).trans rfl
      have hcz7_3:wr.cell? ⟨gb291,3,none⟩=some (.slice A0_3 l0_3.length c0_3):=(blk_cell BK291.out 3).trans rfl
      have hcz7_4:wr.cell? ⟨gb291,4,none⟩=some (.slice A0_4 l0_4.length c0_4):=(blk_cell BK291.out 4).trans rfl
      have hfz7_0:=blk_frozen BK291.out 0
      have hfz7_1:=blk_frozen BK291.out 1
      have hfz7_2:=blk_frozen BK291.out 2
      have hfz7_3:=blk_frozen BK291.out 3
      have hfz7_4:=blk_frozen BK291.out 4
      have p292:0≤(x5_1:Int):=of_decide_eq_true (Z18)
      have q292:x5_1<(l0_4.length:Int):=of_decide_eq_true (Z18)
      obtain⟨ad292,e292,hx292_0,hx292_1⟩:=at_T93 HR0_4.out x5_1 p292 q292
      cases e292
      replace hx292_0:=(HB.out.cell (World.block_lt_of_cell? w _ hx292_0)).trans hx292_0
      replace hx292_1:=(HB.out.cell (World.block_lt_of_cell? w _ hx292_1)).trans hx292_1
      replace p292:=eq_true p292
      replace q292:=eq_true q292
      go_wp2
      go_ret
      exact⟨Z21,Z52⟩
     ·rw[if_neg c6]at H
      have c6b0:(((rd_T93 l0_4 x5_1).f0)==a1)=false:=beq_eq_false_iff_ne.mpr c6
      have c6b1:(((rd_T93 l0_4 x5_1).f0) != a1)=true:=bne_iff_ne.mpr c6
      have H':=Aside0.mk H
      clear H
      have hcz8_0:wr.cell? ⟨gb291,0,none⟩=some (.slice A0_0 l0_0.length c0_0):=(blk_cell BK291.out 0).trans rfl
      have hcz8_1:wr.cell? ⟨gb291,1,none⟩=some (.slice A0_1 l0_1.length c0_1):=(blk_cell BK291.out 1).trans rfl
      have hcz8_2:wr.cell? ⟨gb291,2,none⟩=some (.slice A0_2 l0_2.length c0_2):=(blk_cell BK291.out 2).trans rfl
      have hcz8_3:wr.cell? ⟨gb291,3,none⟩=some (.slice A0_3 l0_3.length c0_3):=(blk_cell BK291.out 3).trans rfl
      have hcz8_4:wr.cell? ⟨gb291,4,none⟩=some (.slice A0_4 l0_4.length c0_4):=(blk_cell BK291.out 4).trans rfl
      have hfz8_0:=blk_frozen BK291.out 0
      have hfz8_1:=blk_frozen BK291.out 1
      have hfz8_2:=blk_frozen BK291.out 2
      have hfz8_3:=blk_frozen BK291.out 3
      have hfz8_4:=blk_frozen BK291.out 4
      have p292:0≤(x5_1:Int):=of_decide_eq_true (Z18)
      have q292:x5_1<(l0_4.length:Int):=of_decide_eq_true (Z18)
      obtain⟨ad292,e292,hx292_0,hx292_1⟩:=at_T93 HR0_4.out x5_1 p292 q292
      cases e292
      replace hx292_0:=(HB.out.cell (World.block_lt_of_cell? w _ hx292_0)).trans hx292_0
      replace hx292_1:=(HB.out.cell (World.block_lt_of_cell? w _ hx292_1)).trans hx292_1
      replace p292:=eq_true p292
      replace q292:=eq_true q292
      go_wp2
      go_roundg k1
      case measure=>have:=HK1.out;omega
      case rel=>exact⟨(wrap64 (x5_1+1)),(Z16),H',⟨Z19⟩,⟨Z51⟩,⟨Z52⟩⟩
    ·rw[if_neg c5]at H
     exact absurd H (by simp)
   ·rw[if_neg c4]at H
    have c4b0:=decide_eq_false c4
    clear c4
    obtain rfl:=Option.some.inj H
    have hcz9_0:wr.cell? ⟨gb291,0,none⟩=some (.slice A0_0 l0_0.length c0_0):=(blk_cell BK291.out 0).trans rfl
    have hcz9_1:wr.cell? ⟨gb291,1,none⟩=some (.slice A0_1 l0_1.length c0_1):=(blk_cell BK291.out 1).trans rfl
    have hcz9_2:wr.cell? ⟨gb291,2,none⟩=some (.slice A0_2 l0_2.length c0_2):=(blk_cell BK291.out 2).trans rfl
    have hcz9_3:wr.cell? ⟨gb291,3,none⟩=some (.slice A0_3 l0_3.length c0_3):=(blk_cell BK291.out 3).trans rfl
    have hcz9_4:wr.cell? ⟨gb291,4,none⟩=some (.slice A0_4 l0_4.length c0_4):=(blk_cell BK291.out 4).trans rfl
    have hfz9_0:=blk_frozen BK291.out 0
    have hfz9_1:=blk_frozen BK291.out 1
    have hfz9_2:=blk_frozen BK291.out 2
    have hfz9_3:=blk_frozen BK291.out 3
    have hfz9_4:=blk_frozen BK291.out 4
    go_wp2
    go_ret
    exact⟨Z21,Z52⟩
end Go.Proofs.YtkffhgiiejbnaaaGreat.Rf
namespace Go.Proofs.YtkffhgiiejbnaaaGreat.Rf
open Go.RowKit YtkffhgiiejbnaaaGreatW.PrintWords YtkffhgiiejbnaaaGreatW.PrintLast YtkffhgiiejbnaaaGreatW.PrintMore
attribute [local go_sem] max2_int min2_int max_two min_two max_three min_three max_four min_four
def ligatureref10_Vocab_Has.f (k:Nat) (l0_0:List ByteArray) (l0_1:List (S91)) (l0_2:List (S165)) (l0_3:List (S108)) (l0_4:List (S93)) (a1:Int):Option (Bool):=(ligatureref04_Table_Has.f l0_0 l0_1 a1).bind fun t294=>(if t294=true then (some true) else ((ligatureref10_Vocab_Mark.f k l0_0 l0_1 l0_2 l0_3 l0_4 a1).bind fun t295=>(some (decide (t295<0)))))
theorem ligatureref10_Vocab_Has.calls (k:Nat) (A0_0:Option Addr) (c0_0:Nat) (l0_0:List ByteArray) (A0_1:Option Addr) (c0_1:Nat) (l0_1:List (S91)) (A0_2:Option Addr) (c0_2:Nat) (l0_2:List (S165)) (A0_3:Option Addr) (c0_3:Nat) (l0_3:List (S108)) (A0_4:Option Addr) (c0_4:Nat) (l0_4:List (S93)) (a1:Int) (r:Bool) (w:World) (hr0_0:Kd.C Kd.string w A0_0 l0_0.length l0_0) (hc0_0:l0_0.length≤c0_0) (hr0_1:Kd.C k91 w A0_1 l0_1.length l0_1) (hc0_1:l0_1.length≤c0_1) (hr0_2:Kd.C k165 w A0_2 l0_2.length l0_2) (hc0_2:l0_2.length≤c0_2) (hr0_3:Kd.C k108 w A0_3 l0_3.length l0_3) (hc0_3:l0_3.length≤c0_3) (hr0_4:Kd.C k93 w A0_4 l0_4.length l0_4) (hc0_4:l0_4.length≤c0_4) (h:ligatureref10_Vocab_Has.f k l0_0 l0_1 l0_2 l0_3 l0_4 a1=some r) :
  Calls Tryz.prog 77 #[.agg #[.slice A0_0 l0_0.length c0_0,.slice A0_1 l0_1.length c0_1,.slice A0_2 l0_2.length c0_2,.slice A0_3 l0_3.length c0_3,.slice A0_4 l0_4.length c0_4],.int .i64 a1] w fun e w'=>e=.returned (.bool r)/\Below w.heap.size w w':=by
 have hu38:=Tryz.underlying38
 have hu34:=Tryz.underlying34
 have HR0_0:=Aside0.mk hr0_0
 have HC0_0:=Aside0.mk hc0_0
 clear hr0_0 hc0_0
 have HR0_1:=Aside0.mk hr0_1
 have HC0_1:=Aside0.mk hc0_1
 clear hr0_1 hc0_1
 have HR0_2:=Aside0.mk hr0_2
 have HC0_2:=Aside0.mk hc0_2
 clear hr0_2 hc0_2
 have HR0_3:=Aside0.mk hr0_3
 have HC0_3:=Aside0.mk hc0_3
 clear hr0_3 hc0_3
 have HR0_4:=Aside0.mk hr0_4
 have HC0_4:=Aside0.mk hc0_4
 clear hr0_4 hc0_4
 have HB:=Aside0.mk (Below.refl w.heap.size w)
 have H:((ligatureref04_Table_Has.f l0_0 l0_1 a1).bind fun t294=>(if t294=true then (some true) else ((ligatureref10_Vocab_Mark.f k l0_0 l0_1 l0_2 l0_3 l0_4 a1).bind fun t295=>(some (decide (t295<0))))))=some r:=h
 clear h
 replace H:=Option.bind_eq_some_iff.mp H
 obtain⟨t294,A30,H⟩:=H
 replace H:(if t294=true then (some true) else ((ligatureref10_Vocab_Mark.f k l0_0 l0_1 l0_2 l0_3 l0_4 a1).bind fun t295=>(some (decide (t295<0)))))=some r:=H
 have A3:=Aside0.mk A30
 clear A30
 by_cases c4:t294=true
 ·subst c4
  have H1:(some true)=some r:=Z34
  clear H
  have H:=H1
  clear H1
  obtain rfl:=Option.some.inj H
  go_enter Tryz.func77,Tryz.ntmps77
  go_wp2_with (first|((with_reducible refine gate_dst (N:=2) rfl ?_);refine bxE 2 (#[.slice A0_0 l0_0.length c0_0,.slice A0_1 l0_1.length c0_1,.slice A0_2 l0_2.length c0_2,.slice A0_3 l0_3.length c0_3,.slice A0_4 l0_4.length c0_4]) 38 ?_;intro gb293 hg w5 hbox hb;have BK293:=Aside0.mk (hbox);have GW293:=Aside0.mk ((Z175:w.heap.size≤gb293));have GE293:=GW293;replace HB:=Aside0.mk (below_step (Z20) hb);clear hb hbox hg;have hcz6_0:w5.cell? ⟨gb293,0,none⟩=some (.slice A0_0 l0_0.length c0_0):=(blk_cell BK293.out 0).trans rfl;have hcz6_1:w5.cell? ⟨gb293,1,none⟩=some (.slice A0_1 l0_1.length c0_1):=(blk_cell BK293.out 1).trans rfl;have hcz6_2:w5.cell? ⟨gb293,2,none⟩=some (.slice A0_2 l0_2.length c0_2):=(blk_cell BK293.out 2).trans rfl;have hcz6_3:w5.cell? ⟨gb293,3,none⟩=some (.slice A0_3 l0_3.length c0_3):=(blk_cell BK293.out 3).trans rfl;have hcz6_4:w5.cell? ⟨gb293,4,none⟩=some (.slice A0_4 l0_4.length c0_4):=(blk_cell BK293.out 4).trans rfl;have hfz6_0:=blk_frozen BK293.out 0;have hfz6_1:=blk_frozen BK293.out 1;have hfz6_2:=blk_frozen BK293.out 2;have hfz6_3:=blk_frozen BK293.out 3;have hfz6_4:=blk_frozen BK293.out 4)|((with_reducible refine gate_callee (f:=106) rfl ?_);refine goesL_ (some 8) rfl rfl Tryz.func106 (Z15) rfl #[.agg #[.slice A0_0 l0_0.length c0_0,.slice A0_1 l0_1.length c0_1],.int .i64 a1] rfl (Z35) ?_;(with_reducible refine(ligatureref04_Table_Has.calls _ _ l0_0 _ _ l0_1 a1 true _ ?side1 ?side2 ?side3 ?side4 A3.out).mono ?_);(case side1=>exact Z46);(case side2=>exact HC0_0.out);(case side3=>exact Z47);(case side4=>exact HC0_1.out);rintro e w7 ⟨rfl,hb⟩;refine⟨_,rfl,?_⟩;replace BK293:=Aside0.mk (blk_below (g:=gb293) (o:=.cells #[.slice A0_0 l0_0.length c0_0,.slice A0_1 l0_1.length c0_1,.slice A0_2 l0_2.length c0_2,.slice A0_3 l0_3.length c0_3,.slice A0_4 l0_4.length c0_4] 38 (0,0)) (Z53) hb);replace HB:=Aside0.mk (below_step (Z54) hb);(try clear hb);(try clear hb2);(try clear hk);(try clear hi)))
  go_ret
  exact⟨Z21,Z54⟩
 ·replace c4:=Bool.eq_false_iff.mpr c4
  subst c4
  have H1:((ligatureref10_Vocab_Mark.f k l0_0 l0_1 l0_2 l0_3 l0_4 a1).bind fun t295=>(some (decide (t295<0))))=some r:=Z176
  clear H
  have H:=H1
  clear H1
  replace H:=Option.bind_eq_some_iff.mp H
  obtain⟨t295,A80,H⟩:=H
  replace H:(some (decide (t295<0)))=some r:=H
  have A8:=Aside0.mk A80
  clear A80
  obtain rfl:=Option.some.inj H
  go_enter Tryz.func77,Tryz.ntmps77
  go_wp2_with (first|((with_reducible refine gate_dst (N:=2) rfl ?_);refine bxE 2 (#[.slice A0_0 l0_0.length c0_0,.slice A0_1 l0_1.length c0_1,.slice A0_2 l0_2.length c0_2,.slice A0_3 l0_3.length c0_3,.slice A0_4 l0_4.length c0_4]) 38 ?_;intro gb293 hg w9 hbox hb;have BK293:=Aside0.mk (hbox);have GW293:=Aside0.mk ((Z175:w.heap.size≤gb293));have GE293:=GW293;replace HB:=Aside0.mk (below_step (Z20) hb);clear hb hbox hg;have hcz10_0:w9.cell? ⟨gb293,0,none⟩=some (.slice A0_0 l0_0.length c0_0):=(blk_cell BK293.out 0).trans rfl;have hcz10_1:w9.cell? ⟨gb293,1,none⟩=some (.slice A0_1 l0_1.length c0_1):=(blk_cell BK293.out 1).trans rfl;have hcz10_2:w9.cell? ⟨gb293,2,none⟩=some (.slice A0_2 l0_2.length c0_2):=(blk_cell BK293.out 2).trans rfl;have hcz10_3:w9.cell? ⟨gb293,3,none⟩=some (.slice A0_3 l0_3.length c0_3):=(blk_cell BK293.out 3).trans rfl;have hcz10_4:w9.cell? ⟨gb293,4,none⟩=some (.slice A0_4 l0_4.length c0_4):=(blk_cell BK293.out 4).trans rfl;have hfz10_0:=blk_frozen BK293.out 0;have hfz10_1:=blk_frozen BK293.out 1;have hfz10_2:=blk_frozen BK293.out 2;have hfz10_3:=blk_frozen BK293.out 3;have hfz10_4:=blk_frozen BK293.out 4)|((with_reducible refine gate_callee (f:=106) rfl ?_);refine goesL_ (some 8) rfl rfl Tryz.func106 (Z15) rfl #[.agg #[.slice A0_0 l0_0.length c0_0,.slice A0_1 l0_1.length c0_1],.int .i64 a1] rfl (Z35) ?_;(with_reducible refine(ligatureref04_Table_Has.calls _ _ l0_0 _ _ l0_1 a1 false _ ?side1 ?side2 ?side3 ?side4 A3.out).mono ?_);(case side1=>exact Z46);(case side2=>exact HC0_0.out);(case side3=>exact Z47);(case side4=>exact HC0_1.out);rintro e w11 ⟨rfl,hb⟩;refine⟨_,rfl,?_⟩;replace BK293:=Aside0.mk (blk_below (g:=gb293) (o:=.cells #[.slice A0_0 l0_0.length c0_0,.slice A0_1 l0_1.length c0_1,.slice A0_2 l0_2.length c0_2,.slice A0_3 l0_3.length c0_3,.slice A0_4 l0_4.length c0_4] 38 (0,0)) (Z53) hb);replace HB:=Aside0.mk (below_step (Z54) hb);(try clear hb);(try clear hb2);(try clear hk);(try clear hi);have hcz12_0:w11.cell? ⟨gb293,0,none⟩=some (.slice A0_0 l0_0.length c0_0):=(blk_cell BK293.out 0).trans rfl;have hcz12_1:w11.cell? ⟨gb293,1,none⟩=some (.slice A0_1 l0_1.length c0_1):=(blk_cell BK293.out 1).trans rfl;have hcz12_2:w11.cell? ⟨gb293,2,none⟩=some (.slice A0_2 l0_2.length c0_2):=(blk_cell BK293.out 2).trans rfl;have hcz12_3:w11.cell? ⟨gb293,3,none⟩=some (.slice A0_3 l0_3.length c0_3):=(blk_cell BK293.out 3).trans rfl;have hcz12_4:w11.cell? ⟨gb293,4,none⟩=some (.slice A0_4 l0_4.length c0_4):=(blk_cell BK293.out 4).trans rfl;have hfz12_0:=blk_frozen BK293.out 0;have hfz12_1:=blk_frozen BK293.out 1;have hfz12_2:=blk_frozen BK293.out 2;have hfz12_3:=blk_frozen BK293.out 3;have hfz12_4:=blk_frozen BK293.out 4)|(go_at_call 78;(with_reducible refine(ligatureref10_Vocab_Mark.calls k _ _ l0_0 _ _ l0_1 _ _ l0_2 _ _ l0_3 _ _ l0_4 a1 t295 _ ?side1 ?side2 ?side3 ?side4 ?side5 ?side6 ?side7 ?side8 ?side9 ?side10 A8.out).mono ?_);(case side1=>exact Z46);(case side2=>exact HC0_0.out);(case side3=>exact Z47);(case side4=>exact HC0_1.out);(case side5=>exact Z48);(case side6=>exact HC0_2.out);(case side7=>exact Z49);(case side8=>exact HC0_3.out);(case side9=>exact Z55);(case side10=>exact HC0_4.out);rintro e w13 ⟨rfl,hb⟩;replace BK293:=Aside0.mk (blk_below (g:=gb293) (o:=.cells #[.slice A0_0 l0_0.length c0_0,.slice A0_1 l0_1.length c0_1,.slice A0_2 l0_2.length c0_2,.slice A0_3 l0_3.length c0_3,.slice A0_4 l0_4.length c0_4] 38 (0,0)) (Z53) hb);replace HB:=Aside0.mk (below_step (Z54) hb);(try clear hb);(try clear hb2);(try clear hk);(try clear hi)))
  go_ret
  exact⟨Z21,Z54⟩
end Go.Proofs.YtkffhgiiejbnaaaGreat.Rf
