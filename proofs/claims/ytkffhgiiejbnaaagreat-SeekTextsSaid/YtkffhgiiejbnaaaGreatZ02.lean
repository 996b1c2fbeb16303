import Derived.Test.YtkffhgiiejbnaaaGreatZ01
set_option maxRecDepth 100000
set_option maxHeartbeats 8000000
set_option linter.unusedVariables false
set_option linter.unusedSimpArgs false
namespace Go.Proofs.YtkffhgiiejbnaaaGreat.Rf
open Go.RowKit YtkffhgiiejbnaaaGreatW.PrintWords YtkffhgiiejbnaaaGreatW.PrintLast YtkffhgiiejbnaaaGreatW.PrintMore
attribute [local go_sem] max2_int min2_int max_two min_two max_three min_three max_four min_four
mutual
def ligatureref09_Check.l0:Nat->List (S93)->Int->Option (Int × Int)
 | 0,_,_=>none
 | k+1,x0,x4=>if x4<(x0.length:Int) then (if 0≤x4 then (if ((rd_T93 x0 x4).f0)<0 then (ligatureref09_Check.j1 k x0 x4 true) else (if ((rd_T93 x0 x4).f0)>1073741824 then (ligatureref09_Check.j1 k x0 x4 true) else (if (((rd_T93 x0 x4).f1).size:Int)<1 then (ligatureref09_Check.j1 k x0 x4 true) else (ligatureref09_Check.j1 k x0 x4 (decide ((((rd_T93 x0 x4).f1).size:Int)>64)))))) else (none)) else (some ((x0.length:Int),0))
def ligatureref09_Check.j1:Nat->List (S93)->Int->Bool->Option (Int × Int)
 | 0,_,_,_=>none
 | k+1,x0,x4,x43=>if x43=true then (some (x4,1)) else (if x4 ≥ 32 then (some (x4,3)) else (ligatureref09_Check.l1 k x0 x4 0))
def ligatureref09_Check.l1:Nat->List (S93)->Int->Int->Option (Int × Int)
 | 0,_,_,_=>none
 | k+1,x0,x4,x5=>if x5<x4 then (if 0≤x5 then (if x5<(x0.length:Int) then (if 0≤x4 then (if x4<(x0.length:Int) then (if ((rd_T93 x0 x5).f0)=((rd_T93 x0 x4).f0) then (some (x4,10)) else (if ((rd_T93 x0 x5).f1).toList=((rd_T93 x0 x4).f1).toList then (some (x4,10)) else (ligatureref09_Check.l1 k x0 x4 (wrap64 (x5+1))))) else (none)) else (none)) else (none)) else (none)) else (ligatureref09_Check.l0 k x0 (wrap64 (x4+1)))
end
def ligatureref09_Check.f (k:Nat) (l0:List (S93)):Option (Int × Int):=ligatureref09_Check.l0 k l0 0
theorem ligatureref09_Check.calls (k:Nat) (A0:Option Addr) (c0:Nat) (l0:List (S93)) (r1:Int) (r2:Int) (w:World) (hr0:Kd.C k93 w A0 l0.length l0) (hc0:l0.length≤c0) (h:ligatureref09_Check.f k l0=some (r1,r2)) :
  Calls Tryz.prog 89 #[.slice A0 l0.length c0] w fun e w'=>e=.returned (.tuple #[.int .i64 r1,.int .i64 r2])/\Drawn0 w w':=by
 have HR0:=Aside0.mk hr0
 have HC0:=Aside0.mk hc0
 clear hr0 hc0
 have H:(ligatureref09_Check.l0 k l0 0)=some (r1,r2):=h
 clear h
 have H':=Aside0.mk H
 clear H
 go_enter Tryz.func89,Tryz.ntmps89
 go_wp2
 repeat(go_quiet (fail);try go_wp2)
 go_loopg [4] k (fun kq v4 w'=>∃ (x4_1:Int),v4=.int .i64 x4_1/\Aside0 (ligatureref09_Check.l0 kq l0 x4_1=some (r1,r2))/\Aside0 (kq≤k)/\Drawn0 w w')
 case atStart=>exact⟨(0),(Z17),H',⟨Nat.le_refl _⟩,Z18⟩
 case round =>
  clear H'
  obtain⟨x4_1,rfl,HA,HK1,⟨m1,rfl⟩⟩:=hrel
  cases gk with
  | zero=>exact absurd HA.out (by simp[ligatureref09_Check.l0])
  | succ k1 =>
   have H:=HA.out
   clear HA
   simp only[ligatureref09_Check.l0]at H
   by_cases c2:x4_1<(l0.length:Int)
   ·rw[if_pos c2]at H
    have c2b0:=decide_eq_true c2
    clear c2
    have HC3:=Aside0.mk H
    clear H
    go_upto_region 4 with (fail)
    repeat(go_quiet (fail);go_upto_region 4 with (fail))
    go_cut [43] (fun v43 wc=>∃ (kq:Nat) (x43_2:Bool),v43=.bool x43_2/\Aside0 (ligatureref09_Check.j1 kq l0 x4_1 x43_2=some (r1,r2))/\Aside0 (kq≤k1)/\Drawn0 w wc)
    case first =>
     have H:=HC3.out
     clear HC3
     by_cases c4:0≤x4_1
     ·rw[if_pos c4]at H
      have c4b0:=decide_eq_true c4
      clear c4
      (first|rw[c4b0]|(simp only[i64_w,i32_w];rw[c4b0])|skip)
      by_cases c5:((rd_T93 l0 x4_1).f0)<0
      ·rw[if_pos c5]at H
       have c5b0:=decide_eq_true c5
       clear c5
       have H':=Aside0.mk H
       clear H
       have p211:=eq_true (of_decide_eq_true (Z19):0≤(x4_1:Int))
       have q211:=eq_true (of_decide_eq_true (Z19):x4_1<(l0.length:Int))
       obtain⟨ad211,e211,hx211_0,hx211_1⟩:=at_T93 HR0.out x4_1 (of_eq_true p211) (of_eq_true q211)
       cases e211
       go_wp2
       repeat(go_quiet (fail);try go_wp2)
       go_meet
       case rel=>exact⟨_,(true),(Z17),H',⟨Z43⟩,Z18⟩
      ·rw[if_neg c5]at H
       have c5b0:=decide_eq_false c5
       clear c5
       by_cases c6:((rd_T93 l0 x4_1).f0)>1073741824
       ·rw[if_pos c6]at H
        have c6b0:decide (1073741824<((rd_T93 l0 x4_1).f0))=true:=decide_eq_true c6
        clear c6
        have H':=Aside0.mk H
        clear H
        have p211:=eq_true (of_decide_eq_true (Z19):0≤(x4_1:Int))
        have q211:=eq_true (of_decide_eq_true (Z19):x4_1<(l0.length:Int))
        obtain⟨ad211,e211,hx211_0,hx211_1⟩:=at_T93 HR0.out x4_1 (of_eq_true p211) (of_eq_true q211)
        cases e211
        go_wp2
        repeat(go_quiet (fail);try go_wp2)
        go_meet
        case rel=>exact⟨_,(true),(Z17),H',⟨Z43⟩,Z18⟩
       ·rw[if_neg c6]at H
        have c6b0:decide (1073741824<((rd_T93 l0 x4_1).f0))=false:=decide_eq_false c6
        clear c6
        by_cases c7:(((rd_T93 l0 x4_1).f1).size:Int)<1
        ·rw[if_pos c7]at H
         have c7b0:=decide_eq_true c7
         have c7b1:decide (((rd_T93 l0 x4_1).f1).size<1)=true:=decide_eq_true (Z1)
         clear c7
         have H':=Aside0.mk H
         clear H
         have p211:=eq_true (of_decide_eq_true (Z19):0≤(x4_1:Int))
         have q211:=eq_true (of_decide_eq_true (Z19):x4_1<(l0.length:Int))
         obtain⟨ad211,e211,hx211_0,hx211_1⟩:=at_T93 HR0.out x4_1 (of_eq_true p211) (of_eq_true q211)
         cases e211
         go_wp2
         repeat(go_quiet (fail);try go_wp2)
         go_meet
         case rel=>exact⟨_,(true),(Z17),H',⟨Z43⟩,Z18⟩
        ·rw[if_neg c7]at H
         have c7b0:=decide_eq_false c7
         have c7b1:decide (((rd_T93 l0 x4_1).f1).size<1)=false:=decide_eq_false (Z1)
         clear c7
         have H':=Aside0.mk H
         clear H
         have p211:=eq_true (of_decide_eq_true (Z19):0≤(x4_1:Int))
         have q211:=eq_true (of_decide_eq_true (Z19):x4_1<(l0.length:Int))
         obtain⟨ad211,e211,hx211_0,hx211_1⟩:=at_T93 HR0.out x4_1 (of_eq_true p211) (of_eq_true q211)
         cases e211
         go_wp2
         repeat(go_quiet (fail);try go_wp2)
         go_meet
         case rel=>exact⟨_,(decide ((((rd_T93 l0 x4_1).f1).size:Int)>64)),(Z17),H',⟨Z43⟩,Z18⟩
     ·rw[if_neg c4]at H
      exact absurd H (by simp)
    case rest =>
     clear HC3
     try clear c2
     try clear c2b0
     try clear p2
     try clear q2
     try clear hx2
     try clear c4
     try clear c4b0
     try clear c5
     try clear c5b0
     try clear c6
     try clear c6b0
     try clear c7
     try clear c7b0
     try clear c7b1
     try clear hx211_0
     try clear hx211_1
     try clear hx212_0
     try clear hx212_1
     try clear hx213_0
     try clear hx213_1
     try clear hx214_0
     try clear hx214_1
     try clear p211
     try clear p212
     try clear p213
     try clear p214
     try clear q211
     try clear q212
     try clear q213
     try clear q214
     obtain⟨kq,x43_2,rfl,HA,HJ2,⟨mc2,rfl⟩⟩:=hcut
     cases kq with
     | zero=>exact absurd HA.out (by simp[ligatureref09_Check.j1])
     | succ kj2 =>
      have H:=HA.out
      clear HA
      simp only[ligatureref09_Check.j1]at H
      by_cases c8:x43_2=true
      ·subst c8
       have H1:(some (x4_1,1))=some (r1,r2):=Z36
       clear H
       have H:=H1
       clear H1
       simp only[Option.some.injEq,Prod.mk.injEq]at H
       obtain⟨rfl,rfl⟩:=H
       go_wp2
       repeat(go_quiet (fail);try go_wp2)
       go_ret2
       exact⟨Z17,Z18⟩
      ·replace c8:=Bool.eq_false_iff.mpr c8
       subst c8
       have H1:(if x4_1 ≥ 32 then (some (x4_1,3)) else (ligatureref09_Check.l1 kj2 l0 x4_1 0))=some (r1,r2):=Z179
       clear H
       have H:=H1
       clear H1
       by_cases c9:x4_1 ≥ 32
       ·rw[if_pos c9]at H
        have c9b0:decide (32≤x4_1)=true:=decide_eq_true c9
        clear c9
        simp only[Option.some.injEq,Prod.mk.injEq]at H
        obtain⟨rfl,rfl⟩:=H
        go_wp2
        repeat(go_quiet (fail);try go_wp2)
        go_ret2
        exact⟨Z17,Z18⟩
       ·rw[if_neg c9]at H
        have c9b0:decide (32≤x4_1)=false:=decide_eq_false c9
        clear c9
        have H':=Aside0.mk H
        clear H
        go_wp2
        repeat(go_quiet (fail);try go_wp2)
        go_loopg [5] kj2 (fun kq v5 w'=>∃ (x5_3:Int),v5=.int .i64 x5_3/\Aside0 (ligatureref09_Check.l1 kq l0 x4_1 x5_3=some (r1,r2))/\Aside0 (kq≤kj2)/\Drawn0 w w')
        case atStart=>exact⟨(0),(Z17),H',⟨Nat.le_refl _⟩,Z18⟩
        case round =>
         clear H'
         try clear c2
         try clear c2b0
         try clear p2
         try clear q2
         try clear hx2
         try clear c4
         try clear c4b0
         try clear c5
         try clear c5b0
         try clear c6
         try clear c6b0
         try clear c7
         try clear c7b0
         try clear c7b1
         try clear c8
         try clear c9
         try clear c9b0
         try clear hx211_0
         try clear hx211_1
         try clear hx212_0
         try clear hx212_1
         try clear hx213_0
         try clear hx213_1
         try clear hx214_0
         try clear hx214_1
         try clear p2
         try clear p211
         try clear p212
         try clear p213
         try clear p214
         try clear q2
         try clear q211
         try clear q212
         try clear q213
         try clear q214
         obtain⟨x5_3,rfl,HA,HK3,⟨m3,rfl⟩⟩:=hrel
         cases gk with
         | zero=>exact absurd HA.out (by simp[ligatureref09_Check.l1])
         | succ k3 =>
          have H:=HA.out
          clear HA
          simp only[ligatureref09_Check.l1]at H
          by_cases c10:x5_3<x4_1
          ·rw[if_pos c10]at H
           have c10b0:=decide_eq_true c10
           clear c10
           by_cases c11:0≤x5_3
           ·rw[if_pos c11]at H
            have c11b0:=decide_eq_true c11
            clear c11
            by_cases c12:x5_3<(l0.length:Int)
            ·rw[if_pos c12]at H
             have c12b0:=decide_eq_true c12
             clear c12
             by_cases c13:0≤x4_1
             ·rw[if_pos c13]at H
              have c13b0:=decide_eq_true c13
              clear c13
              by_cases c14:x4_1<(l0.length:Int)
              ·rw[if_pos c14]at H
               have c14b0:=decide_eq_true c14
               clear c14
               by_cases c15:((rd_T93 l0 x5_3).f0)=((rd_T93 l0 x4_1).f0)
               ·rw[if_pos c15]at H
                have c15b0:(((rd_T93 l0 x5_3).f0)==((rd_T93 l0 x4_1).f0))=true:=beq_iff_eq.mpr c15
                have c15b1:(((rd_T93 l0 x5_3).f0) != ((rd_T93 l0 x4_1).f0))=false:=bne_eq_false_iff_eq.mpr c15
                clear c15
                simp only[Option.some.injEq,Prod.mk.injEq]at H
                obtain⟨rfl,rfl⟩:=H
                have p215:=eq_true (of_decide_eq_true (Z19):0≤(x5_3:Int))
                have q215:=eq_true (of_decide_eq_true (Z19):x5_3<(l0.length:Int))
                obtain⟨ad215,e215,hx215_0,hx215_1⟩:=at_T93 HR0.out x5_3 (of_eq_true p215) (of_eq_true q215)
                cases e215
                have p216:=eq_true (of_decide_eq_true (Z19):0≤(x4_1:Int))
                have q216:=eq_true (of_decide_eq_true (Z19):x4_1<(l0.length:Int))
                obtain⟨ad216,e216,hx216_0,hx216_1⟩:=at_T93 HR0.out x4_1 (of_eq_true p216) (of_eq_true q216)
                obtain rfl:ad215=ad216:=(by injection e216)
                go_wp2
                repeat(go_quiet (fail);try go_wp2)
                go_ret2
                exact⟨Z17,Z18⟩
               ·rw[if_neg c15]at H
                have c15b0:(((rd_T93 l0 x5_3).f0)==((rd_T93 l0 x4_1).f0))=false:=beq_eq_false_iff_ne.mpr c15
                have c15b1:(((rd_T93 l0 x5_3).f0) != ((rd_T93 l0 x4_1).f0))=true:=bne_iff_ne.mpr c15
                by_cases c16:((rd_T93 l0 x5_3).f1).toList=((rd_T93 l0 x4_1).f1).toList
                ·rw[if_pos c16]at H
                 have c16b0:(((rd_T93 l0 x5_3).f1).toList==((rd_T93 l0 x4_1).f1).toList)=true:=beq_iff_eq.mpr c16
                 have c16b1:(((rd_T93 l0 x5_3).f1).toList != ((rd_T93 l0 x4_1).f1).toList)=false:=bne_eq_false_iff_eq.mpr c16
                 clear c16
                 simp only[Option.some.injEq,Prod.mk.injEq]at H
                 obtain⟨rfl,rfl⟩:=H
                 have p215:=eq_true (of_decide_eq_true (Z19):0≤(x5_3:Int))
                 have q215:=eq_true (of_decide_eq_true (Z19):x5_3<(l0.length:Int))
                 obtain⟨ad215,e215,hx215_0,hx215_1⟩:=at_T93 HR0.out x5_3 (of_eq_true p215) (of_eq_true q215)
                 cases e215
                 have p216:=eq_true (of_decide_eq_true (Z19):0≤(x4_1:Int))
                 have q216:=eq_true (of_decide_eq_true (Z19):x4_1<(l0.length:Int))
                 obtain⟨ad216,e216,hx216_0,hx216_1⟩:=at_T93 HR0.out x4_1 (of_eq_true p216) (of_eq_true q216)
                 obtain rfl:ad215=ad216:=(by injection e216)
                 go_wp2
                 repeat(go_quiet (fail);try go_wp2)
                 go_ret2
                 exact⟨Z17,Z18⟩
                ·rw[if_neg c16]at H
                 have c16b0:(((rd_T93 l0 x5_3).f1).toList==((rd_T93 l0 x4_1).f1).toList)=false:=beq_eq_false_iff_ne.mpr c16
                 have c16b1:(((rd_T93 l0 x5_3).f1).toList != ((rd_T93 l0 x4_1).f1).toList)=true:=bne_iff_ne.mpr c16
                 have H':=Aside0.mk H
                 clear H
                 have p215:=eq_true (of_decide_eq_true (Z19):0≤(x5_3:Int))
                 have q215:=eq_true (of_decide_eq_true (Z19):x5_3<(l0.length:Int))
                 obtain⟨ad215,e215,hx215_0,hx215_1⟩:=at_T93 HR0.out x5_3 (of_eq_true p215) (of_eq_true q215)
                 cases e215
                 have p216:=eq_true (of_decide_eq_true (Z19):0≤(x4_1:Int))
                 have q216:=eq_true (of_decide_eq_true (Z19):x4_1<(l0.length:Int))
                 obtain⟨ad216,e216,hx216_0,hx216_1⟩:=at_T93 HR0.out x4_1 (of_eq_true p216) (of_eq_true q216)
                 obtain rfl:ad215=ad216:=(by injection e216)
                 go_wp2
                 repeat(go_quiet (fail);try go_wp2)
                 go_roundg k3
                 case measure=>have:=HK1.out;have:=HJ2.out;have:=HK3.out;omega
                 case rel=>exact⟨(wrap64 (x5_3+1)),(Z17),H',⟨Z44⟩,Z18⟩
              ·rw[if_neg c14]at H
               exact absurd H (by simp)
             ·rw[if_neg c13]at H
              exact absurd H (by simp)
            ·rw[if_neg c12]at H
             exact absurd H (by simp)
           ·rw[if_neg c11]at H
            exact absurd H (by simp)
          ·rw[if_neg c10]at H
           have c10b0:=decide_eq_false c10
           clear c10
           have H':=Aside0.mk H
           clear H
           go_wp2
           repeat(go_quiet (fail);try go_wp2)
           go_roundg k3
           case measure=>have:=HK1.out;have:=HJ2.out;have:=HK3.out;omega
           case rel=>exact⟨(wrap64 (x4_1+1)),(Z17),H',⟨Z44⟩,Z18⟩
   ·rw[if_neg c2]at H
    have c2b0:=decide_eq_false c2
    clear c2
    simp only[Option.some.injEq,Prod.mk.injEq]at H
    obtain⟨rfl,rfl⟩:=H
    go_wp2
    repeat(go_quiet (fail);try go_wp2)
    go_ret2
    exact⟨Z17,Z18⟩
end Go.Proofs.YtkffhgiiejbnaaaGreat.Rf
namespace Go.Proofs.YtkffhgiiejbnaaaGreat.Rf
open Go.RowKit YtkffhgiiejbnaaaGreatW.PrintWords YtkffhgiiejbnaaaGreatW.PrintLast YtkffhgiiejbnaaaGreatW.PrintMore
attribute [local go_sem] max2_int min2_int max_two min_two max_three min_three max_four min_four
def mark_Bytes.l0:Nat->ByteArray->List Int->Int->Int->Option (List Int)
 | 0,_,_,_,_=>none
 | k+1,x0,x3,x6,x7=>if x7<x6 then (if 0≤x7 then (if x7<(x0.size:Int) then (if x3.length<17592186044416 then (mark_Bytes.l0 k x0 (x3++[wrap64 (bt x0 x7)]) x6 (wrap64 (x7+1))) else (none)) else (none)) else (none)) else (some x3)
def mark_Bytes.f (k:Nat) (a0:ByteArray):Option (List Int):=mark_Bytes.l0 k a0 ([]:List Int) (a0.size:Int) 0
theorem mark_Bytes.calls (k:Nat) (a0:ByteArray) (r:List Int) (w:World) (h:mark_Bytes.f k a0=some r) :
  Calls Tryz.prog 28 #[.string a0] w fun e w'=>∃ v0_:Value,e=.returned (v0_)/\Kd.R (Kd.int .i64) 3 w' w.heap.size (fun _=>True) v0_ r/\Below w.heap.size w w':=by
 have HB:=Aside0.mk (Below.refl w.heap.size w)
 have H:(mark_Bytes.l0 k a0 ([]:List Int) (a0.size:Int) 0)=some r:=h
 clear h
 have H':=Aside0.mk H
 clear H
 go_enter Tryz.func28,Tryz.ntmps28
 go_wp2
 go_loopg [3,7] k (fun kq v3 v7 w'=>∃ (x3_1:List Int) (x7_1:Int),v7=.int .i64 x7_1/\Aside0 (mark_Bytes.l0 kq a0 x3_1 (a0.size:Int) x7_1=some r)/\Aside0 (kq≤k)/\Aside0 (Kd.R (Kd.int .i64) 3 w' w.heap.size (fun _=>True) v3 x3_1)/\Aside0 (Below w.heap.size w w'))
 case atStart=>exact⟨(([]:List Int)),(0),(Z17),H',⟨Nat.le_refl _⟩,⟨Z28⟩,⟨Z21⟩⟩
 case round =>
  clear H'
  obtain⟨x3_1,x7_1,rfl,HA,HK1,HO_3,HB⟩:=hrel
  cases gk with
  | zero=>exact absurd HA.out (by simp[mark_Bytes.l0])
  | succ k1 =>
   have H:=HA.out
   clear HA
   simp only[mark_Bytes.l0]at H
   by_cases c2:x7_1<(a0.size:Int)
   ·rw[if_pos c2]at H
    have c2b0:=decide_eq_true c2
    clear c2
    by_cases c3:0≤x7_1
    ·rw[if_pos c3]at H
     have c3b0:=decide_eq_true c3
     clear c3
     by_cases c4:x7_1<(a0.size:Int)
     ·rw[if_pos c4]at H
      have c4b0:=decide_eq_true c4
      clear c4
      by_cases c6:x3_1.length<17592186044416
      ·rw[if_pos c6]at H
       have LMc6:=Aside0.mk c6
       clear c6
       obtain⟨y115,hy115⟩:∃ y_:List Int,y_=(x3_1++[wrap64 (bt a0 x7_1)]):=⟨_,rfl⟩
       replace H:(mark_Bytes.l0 k1 a0 y115 (a0.size:Int) (wrap64 (x7_1+1)))=some r:=by first|(rw[hy115];with_reducible exact H)|(have H2_:=(Option.bind_some _ _).symm.trans H;rw[hy115];with_reducible exact H2_)|(have H2_:=(Option.bind_some _ _).symm.trans H;with_reducible exact H2_)|with_reducible exact H|(rw[hy115];exact H)|exact H
       have Ny115:=Aside0.mk hy115
       clear hy115
       have H':=Aside0.mk H
       clear H
       have p5:0≤(x7_1:Int):=of_decide_eq_true (Z19)
       have q5:x7_1<(a0.size:Int):=of_decide_eq_true (Z19)
       have hx5:=bt_at a0 x7_1
       replace p5:=eq_true p5
       replace q5:=eq_true q5
       go_wp2_with (first|((with_reducible refine gate_builtin (b:=.append) (xs:=#[.tmp 10,.tmp 15]) rfl ?_);at_builtin;refine Kd.R_append (Kd.int .i64) (w0:=w) w.heap.size rfl (.tmp 10) (.tmp 15) 41 3 (.int .i64 0) 8 rfl Tryz.underlying41 info3 rfl (Z32) (Z1) u3 x3_1 (wrap64 (bt a0 x7_1)) [.int .i64 (wrap64 (bt a0 x7_1))] (fun _=>True) (fun _=>False) rfl rfl ?aP (fun _ hk=>hk.elim) ?aF ?aO ?aB ?aS ?aL ?_;(case aP=>exact rfl);(case aB=>exact(Z21));(case aF=>exact Z34);(case aO=>exact(Z45));(case aS=>exact Z180);(case aL=>have:=LMc6.out;omega);intro v116 w7 ho hb hg hat;rw[←Ny115.out]at ho;have n0_:=Aside0.mk (hb);have n1_:=Aside0.mk (ho);clear HB;clear HO_3;have HB:=n0_;have HO117:=n1_;clear n0_ n1_;clear ho hb hg hat))
       go_roundg k1
       case measure=>have:=HK1.out;omega
       case rel=>exact⟨(y115),(wrap64 (x7_1+1)),(Z17),H',⟨Z20⟩,⟨by(with_reducible repeat(first|apply Kd.R_alloc|apply Kd.R_drewN|apply Kd.R_drew));exact HO117.out⟩,⟨Z21⟩⟩
      ·rw[if_neg c6]at H
       exact absurd H (by simp)
     ·rw[if_neg c4]at H
      exact absurd H (by simp)
    ·rw[if_neg c3]at H
     exact absurd H (by simp)
   ·rw[if_neg c2]at H
    have c2b0:=decide_eq_false c2
    clear c2
    obtain rfl:=Option.some.inj H
    go_wp2
    go_ret
    exact⟨_,Z22,Z45,Z21⟩
end Go.Proofs.YtkffhgiiejbnaaaGreat.Rf
namespace Go.Proofs.YtkffhgiiejbnaaaGreat.Rf
open Go.RowKit YtkffhgiiejbnaaaGreatW.PrintWords YtkffhgiiejbnaaaGreatW.PrintLast YtkffhgiiejbnaaaGreatW.PrintMore
attribute [local go_sem] max2_int min2_int max_two min_two max_three min_three max_four min_four
mutual
def ligatureref05_Encode.l0:Nat->ByteArray->Int->List Int->Int->List ByteArray->List (S91)->Option (List Int)
 | 0,_,_,_,_,_,_=>none
 | k+1,x1,x2,x7,x8,x221000,x221001=>if x8<(x1.size:Int) then (if 0≤x8 then (if x7.length<17592186044416 then (ligatureref05_Encode.l0 k x1 x2 (x7++[wrap64 (bt x1 x8)]) (wrap64 (x8+1)) x221000 x221001) else (none)) else (none)) else (ligatureref05_Encode.l1 k x2 x7 0 x221000 x221001)
def ligatureref05_Encode.l1:Nat->Int->List Int->Int->List ByteArray->List (S91)->Option (List Int)
 | 0,_,_,_,_,_=>none
 | k+1,x2,x7,x9,x221000,x221001=>if x9<(x221001.length:Int) then (ligatureref05_Encode.j2 k x2 x7 x9 (decide ((wrap64 (256+x9))<x2)) x221000 x221001) else (ligatureref05_Encode.j2 k x2 x7 x9 false x221000 x221001)
def ligatureref05_Encode.j2:Nat->Int->List Int->Int->Bool->List ByteArray->List (S91)->Option (List Int)
 | 0,_,_,_,_,_,_=>none
 | k+1,x2,x7,x9,x35,x221000,x221001=>if x35=true then (ligatureref05_Encode.l2 k x2 x7 x9 ([]:List Int) 0 x221000 x221001) else (some x7)
def ligatureref05_Encode.l2:Nat->Int->List Int->Int->List Int->Int->List ByteArray->List (S91)->Option (List Int)
 | 0,_,_,_,_,_,_,_=>none
 | k+1,x2,x7,x9,x10,x11,x221000,x221001=>if x11<(x7.length:Int) then (if (wrap64 (x11+1))<(x7.length:Int) then (if 0≤x11 then (if 0≤x9 then (if x9<(x221001.length:Int) then (if (rd x7 x11)=((rd_T91 x221001 x9).f0) then (if 0≤(wrap64 (x11+1)) then (if (rd x7 (wrap64 (x11+1)))=((rd_T91 x221001 x9).f1) then (if x10.length<17592186044416 then (ligatureref05_Encode.l2 k x2 x7 x9 (x10++[wrap64 (256+x9)]) (wrap64 ((wrap64 (x11+1))+1)) x221000 x221001) else (none)) else (if x10.length<17592186044416 then (ligatureref05_Encode.l2 k x2 x7 x9 (x10++[rd x7 x11]) (wrap64 (x11+1)) x221000 x221001) else (none))) else (none)) else (if x10.length<17592186044416 then (ligatureref05_Encode.l2 k x2 x7 x9 (x10++[rd x7 x11]) (wrap64 (x11+1)) x221000 x221001) else (none))) else (none)) else (none)) else (none)) else (if 0≤x11 then (if x10.length<17592186044416 then (ligatureref05_Encode.l2 k x2 x7 x9 (x10++[rd x7 x11]) (wrap64 (x11+1)) x221000 x221001) else (none)) else (none))) else (ligatureref05_Encode.l1 k x2 x10 (wrap64 (x9+1)) x221000 x221001)
end
def ligatureref05_Encode.f (k:Nat) (l0_0:List ByteArray) (l0_1:List (S91)) (a1:ByteArray) (a2:Int):Option (List Int):=ligatureref05_Encode.l0 k a1 a2 ([]:List Int) 0 l0_0 l0_1
theorem ligatureref05_Encode.calls (k:Nat) (A0_0:Option Addr) (c0_0:Nat) (l0_0:List ByteArray) (A0_1:Option Addr) (c0_1:Nat) (l0_1:List (S91)) (a1:ByteArray) (a2:Int) (r:List Int) (w:World) (hr0_0:Kd.C Kd.string w A0_0 l0_0.length l0_0) (hc0_0:l0_0.length≤c0_0) (hr0_1:Kd.C k91 w A0_1 l0_1.length l0_1) (hc0_1:l0_1.length≤c0_1) (h:ligatureref05_Encode.f k l0_0 l0_1 a1 a2=some r) :
  Calls Tryz.prog 95 #[.agg #[.slice A0_0 l0_0.length c0_0,.slice A0_1 l0_1.length c0_1],.string a1,.int .i64 a2] w fun e w'=>∃ v0_:Value,e=.returned (v0_)/\Kd.R (Kd.int .i64) 3 w' w.heap.size (fun _=>True) v0_ r/\Below w.heap.size w w':=by
 have hu34:=Tryz.underlying34
 have HR0_0:=Aside0.mk hr0_0
 have HC0_0:=Aside0.mk hc0_0
 clear hr0_0 hc0_0
 have HR0_1:=Aside0.mk hr0_1
 have HC0_1:=Aside0.mk hc0_1
 clear hr0_1 hc0_1
 have HB:=Aside0.mk (Below.refl w.heap.size w)
 have H:(ligatureref05_Encode.l0 k a1 a2 ([]:List Int) 0 l0_0 l0_1)=some r:=h
 clear h
 have H':=Aside0.mk H
 clear H
 go_enter Tryz.func95,Tryz.ntmps95
 go_wp2_with (first|((with_reducible refine gate_dst (N:=3) rfl ?_);refine bxE 3 (#[.slice A0_0 l0_0.length c0_0,.slice A0_1 l0_1.length c0_1]) 34 ?_;intro gb220 hg w4 hbox hb;have BK220:=Aside0.mk (hbox);have GW220:=Aside0.mk ((Z178:w.heap.size≤gb220));have GE220:=GW220;replace HB:=Aside0.mk (below_step (Z21) hb);clear hb hbox hg))
 repeat(go_quiet (first|((with_reducible refine gate_dst (N:=3) rfl ?_);refine bxE 3 (#[.slice A0_0 l0_0.length c0_0,.slice A0_1 l0_1.length c0_1]) 34 ?_;intro gb220 hg w4 hbox hb;have BK220:=Aside0.mk (hbox);have GW220:=Aside0.mk ((Z178:w.heap.size≤gb220));have GE220:=GW220;replace HB:=Aside0.mk (below_step (Z21) hb);clear hb hbox hg));try go_wp2_with (first|((with_reducible refine gate_dst (N:=3) rfl ?_);refine bxE 3 (#[.slice A0_0 l0_0.length c0_0,.slice A0_1 l0_1.length c0_1]) 34 ?_;intro gb220 hg w4 hbox hb;have BK220:=Aside0.mk (hbox);have GW220:=Aside0.mk ((Z178:w.heap.size≤gb220));have GE220:=GW220;replace HB:=Aside0.mk (below_step (Z21) hb);clear hb hbox hg)))
 go_loopg [7,8] k (fun kq v7 v8 w'=>∃ (x7_1:List Int) (x8_1:Int),v8=.int .i64 x8_1/\Aside0 (ligatureref05_Encode.l0 kq a1 a2 x7_1 x8_1 l0_0 l0_1=some r)/\Aside0 (kq≤k)/\Aside0 (Kd.R (Kd.int .i64) 3 w' w.heap.size (fun _=>True) v7 x7_1)/\Aside0 (w'.heap[gb220]?=some (.cells #[(.slice A0_0 l0_0.length c0_0),(.slice A0_1 l0_1.length c0_1)] 34 (0,0)))/\Aside0 (Below w.heap.size w w'))
 case atStart=>exact⟨(([]:List Int)),(0),(Z17),H',⟨Nat.le_refl _⟩,⟨Z28⟩,⟨Z46⟩,⟨Z47⟩⟩
 case round =>
  clear H'
  try clear p2
  obtain⟨x7_1,x8_1,rfl,HA,HK1,HO_7,BK220,HB⟩:=hrel
  cases gk with
  | zero=>exact absurd HA.out (by simp[ligatureref05_Encode.l0])
  | succ k1 =>
   have H:=HA.out
   clear HA
   simp only[ligatureref05_Encode.l0]at H
   by_cases c5:x8_1<(a1.size:Int)
   ·rw[if_pos c5]at H
    have c5b0:=decide_eq_true c5
    clear c5
    by_cases c6:0≤x8_1
    ·rw[if_pos c6]at H
     have c6b0:=decide_eq_true c6
     clear c6
     by_cases c8:x7_1.length<17592186044416
     ·rw[if_pos c8]at H
      have LMc8:=Aside0.mk c8
      clear c8
      obtain⟨y221,hy221⟩:∃ y_:List Int,y_=(x7_1++[wrap64 (bt a1 x8_1)]):=⟨_,rfl⟩
      replace H:(ligatureref05_Encode.l0 k1 a1 a2 y221 (wrap64 (x8_1+1)) l0_0 l0_1)=some r:=by first|(rw[hy221];with_reducible exact H)|(have H2_:=(Option.bind_some _ _).symm.trans H;rw[hy221];with_reducible exact H2_)|(have H2_:=(Option.bind_some _ _).symm.trans H;with_reducible exact H2_)|with_reducible exact H|(rw[hy221];exact H)|exact H
      have Ny221:=Aside0.mk hy221
      clear hy221
      have H':=Aside0.mk H
      clear H
      have p7:0≤(x8_1:Int):=of_decide_eq_true (Z19)
      have q7:x8_1<(a1.size:Int):=of_decide_eq_true (Z19)
      have hx7:=bt_at a1 x8_1
      replace p7:=eq_true p7
      replace q7:=eq_true q7
      go_wp2_with (first|((with_reducible refine gate_builtin (b:=.append) (xs:=#[.tmp 18,.tmp 23]) rfl ?_);at_builtin;refine Kd.R_append (Kd.int .i64) (w0:=w) w.heap.size rfl (.tmp 18) (.tmp 23) 41 3 (.int .i64 0) 8 rfl Tryz.underlying41 info3 rfl (Z32) (Z1) u7 x7_1 (wrap64 (bt a1 x8_1)) [.int .i64 (wrap64 (bt a1 x8_1))] (fun _=>True) (fun _=>False) rfl rfl ?aP (fun _ hk=>hk.elim) ?aF ?aO ?aB ?aS ?aL ?_;(case aP=>exact rfl);(case aB=>exact(Z47));(case aF=>exact Z34);(case aO=>exact(Z48));(case aS=>exact Z181);(case aL=>have:=LMc8.out;omega);intro v222 w9 ho hb hg hat;rw[←Ny221.out]at ho;have n0_:=Aside0.mk (blk_grown (g:=gb220) (o:=.cells #[.slice A0_0 l0_0.length c0_0,.slice A0_1 l0_1.length c0_1] 34 (0,0)) (Z46) hg (Kd.R_ne HO_7.out BK220.out (Z32)));have n1_:=Aside0.mk (hb);have n2_:=Aside0.mk (ho);clear BK220;clear HB;clear HO_7;have BK220:=n0_;have HB:=n1_;have HO223:=n2_;clear n0_ n1_ n2_;clear ho hb hg hat))
      repeat(go_quiet (first|((with_reducible refine gate_builtin (b:=.append) (xs:=#[.tmp 18,.tmp 23]) rfl ?_);at_builtin;refine Kd.R_append (Kd.int .i64) (w0:=w) w.heap.size rfl (.tmp 18) (.tmp 23) 41 3 (.int .i64 0) 8 rfl Tryz.underlying41 info3 rfl (Z32) (Z1) u7 x7_1 (wrap64 (bt a1 x8_1)) [.int .i64 (wrap64 (bt a1 x8_1))] (fun _=>True) (fun _=>False) rfl rfl ?aP (fun _ hk=>hk.elim) ?aF ?aO ?aB ?aS ?aL ?_;(case aP=>exact rfl);(case aB=>exact(Z47));(case aF=>exact Z34);(case aO=>exact(Z48));(case aS=>exact Z181);(case aL=>have:=LMc8.out;omega);intro v222 w9 ho hb hg hat;rw[←Ny221.out]at ho;have n0_:=Aside0.mk (blk_grown (g:=gb220) (o:=.cells #[.slice A0_0 l0_0.length c0_0,.slice A0_1 l0_1.length c0_1] 34 (0,0)) (Z46) hg (Kd.R_ne HO_7.out BK220.out (Z32)));have n1_:=Aside0.mk (hb);have n2_:=Aside0.mk (ho);clear BK220;clear HB;clear HO_7;have BK220:=n0_;have HB:=n1_;have HO223:=n2_;clear n0_ n1_ n2_;clear ho hb hg hat));try go_wp2_with (first|((with_reducible refine gate_builtin (b:=.append) (xs:=#[.tmp 18,.tmp 23]) rfl ?_);at_builtin;refine Kd.R_append (Kd.int .i64) (w0:=w) w.heap.size rfl (.tmp 18) (.tmp 23) 41 3 (.int .i64 0) 8 rfl Tryz.underlying41 info3 rfl (Z32) (Z1) u7 x7_1 (wrap64 (bt a1 x8_1)) [.int .i64 (wrap64 (bt a1 x8_1))] (fun _=>True) (fun _=>False) rfl rfl ?aP (fun _ hk=>hk.elim) ?aF ?aO ?aB ?aS ?aL ?_;(case aP=>exact rfl);(case aB=>exact(Z47));(case aF=>exact Z34);(case aO=>exact(Z48));(case aS=>exact Z181);(case aL=>have:=LMc8.out;omega);intro v222 w9 ho hb hg hat;rw[←Ny221.out]at ho;have n0_:=Aside0.mk (blk_grown (g:=gb220) (o:=.cells #[.slice A0_0 l0_0.length c0_0,.slice A0_1 l0_1.length c0_1] 34 (0,0)) (Z46) hg (Kd.R_ne HO_7.out BK220.out (Z32)));have n1_:=Aside0.mk (hb);have n2_:=Aside0.mk (ho);clear BK220;clear HB;clear HO_7;have BK220:=n0_;have HB:=n1_;have HO223:=n2_;clear n0_ n1_ n2_;clear ho hb hg hat)))
      go_roundg k1
      case measure=>have:=HK1.out;omega
      case rel=>exact⟨(y221),(wrap64 (x8_1+1)),(Z17),H',⟨Z20⟩,⟨by(with_reducible repeat(first|apply Kd.R_alloc|apply Kd.R_drewN|apply Kd.R_drew));exact HO223.out⟩,⟨Z46⟩,⟨Z47⟩⟩
     ·rw[if_neg c8]at H
      exact absurd H (by simp)
    ·rw[if_neg c6]at H
     exact absurd H (by simp)
   ·rw[if_neg c5]at H
    have c5b0:=decide_eq_false c5
    clear c5
    have H':=Aside0.mk H
    clear H
    go_wp2
    repeat(go_quiet (fail);try go_wp2)
    go_loopg [7,9] k1 (fun kq v7 v9 w'=>∃ (x7_2:List Int) (x9_2:Int),v9=.int .i64 x9_2/\Aside0 (ligatureref05_Encode.l1 kq a2 x7_2 x9_2 l0_0 l0_1=some r)/\Aside0 (kq≤k1)/\Aside0 (Kd.R (Kd.int .i64) 3 w' w.heap.size (fun _=>True) v7 x7_2)/\Aside0 (w'.heap[gb220]?=some (.cells #[(.slice A0_0 l0_0.length c0_0),(.slice A0_1 l0_1.length c0_1)] 34 (0,0)))/\Aside0 (Below w.heap.size w w'))
    case atStart=>exact⟨(x7_1),(0),(Z17),H',⟨Nat.le_refl _⟩,⟨Z48⟩,⟨Z46⟩,⟨Z47⟩⟩
    case round =>
     clear H'
     try clear p2
     try clear c5
     try clear c5b0
     try clear c6
     try clear c6b0
     try clear p6
     try clear p7
     try clear q7
     try clear hx7
     try clear c8
     try clear c9
     try clear p2
     try clear p7
     try clear q7
     obtain⟨x7_2,x9_2,rfl,HA,HK2,HO_7,BK220,HB⟩:=hrel
     cases gk with
     | zero=>exact absurd HA.out (by simp[ligatureref05_Encode.l1])
     | succ k2 =>
      have H:=HA.out
      clear HA
      simp only[ligatureref05_Encode.l1]at H
      have HC10:=Aside0.mk H
      clear H
      go_upto_region 7 with (fail)
      repeat(go_quiet (fail);go_upto_region 7 with (fail))
      go_cut [35] (fun v35 wc=>∃ (kq:Nat) (x35_9:Bool),v35=.bool x35_9/\Aside0 (ligatureref05_Encode.j2 kq a2 x7_2 x9_2 x35_9 l0_0 l0_1=some r)/\Aside0 (kq≤k2)/\Aside0 (Kd.R (Kd.int .i64) 3 wc w.heap.size (fun _=>True) u7 x7_2)/\Aside0 (wc.heap[gb220]?=some (.cells #[(.slice A0_0 l0_0.length c0_0),(.slice A0_1 l0_1.length c0_1)] 34 (0,0)))/\Aside0 (Below w.heap.size w wc))
      case first =>
       have H:=HC10.out
       clear HC10
       by_cases c11:x9_2<(l0_1.length:Int)
       ·rw[if_pos c11]at H
        have c11b0:=decide_eq_true c11
        clear c11
        (first|rw[c11b0]|(simp only[i64_w,i32_w];rw[c11b0])|skip)
        have H':=Aside0.mk H
        clear H
        have hcz12_0:wr.cell? ⟨gb220,0,none⟩=some (.slice A0_0 l0_0.length c0_0):=(blk_cell BK220.out 0).trans rfl
        have hcz12_1:wr.cell? ⟨gb220,1,none⟩=some (.slice A0_1 l0_1.length c0_1):=(blk_cell BK220.out 1).trans rfl
        have hfz12_0:=blk_frozen BK220.out 0
        have hfz12_1:=blk_frozen BK220.out 1
        go_wp2
        repeat(go_quiet (fail);try go_wp2)
        go_meet
        case rel=>exact⟨_,(decide ((wrap64 (256+x9_2))<a2)),(Z17),H',⟨Z49⟩,⟨Z48⟩,⟨Z46⟩,⟨Z47⟩⟩
       ·rw[if_neg c11]at H
        have c11b0:=decide_eq_false c11
        clear c11
        (first|rw[c11b0]|(simp only[i64_w,i32_w];rw[c11b0])|skip)
        have H':=Aside0.mk H
        clear H
        have hcz13_0:wr.cell? ⟨gb220,0,none⟩=some (.slice A0_0 l0_0.length c0_0):=(blk_cell BK220.out 0).trans rfl
        have hcz13_1:wr.cell? ⟨gb220,1,none⟩=some (.slice A0_1 l0_1.length c0_1):=(blk_cell BK220.out 1).trans rfl
        have hfz13_0:=blk_frozen BK220.out 0
        have hfz13_1:=blk_frozen BK220.out 1
        go_wp2
        repeat(go_quiet (fail);try go_wp2)
        go_meet
        case rel=>exact⟨_,(false),(Z17),H',⟨Z49⟩,⟨Z48⟩,⟨Z46⟩,⟨Z47⟩⟩
      case rest =>
       clear HC10
       try clear c1
       try clear p2
       try clear c5
       try clear c5b0
       try clear c6
       try clear c6b0
       try clear p6
       try clear p7
       try clear q7
       try clear hx7
       try clear c8
       try clear c9
       try clear c11
       try clear c11b0
       try clear hcz12_0
       try clear hcz12_1
       try clear hcz13_0
       try clear hcz13_1
       try clear hfz12_0
       try clear hfz12_1
       try clear hfz13_0
       try clear hfz13_1
       try clear p2
       try clear p6
       try clear p7
       try clear q7
       obtain⟨kq,x35_9,rfl,HA,HJ9,HO_7,BK220,HB⟩:=hcut
       cases kq with
       | zero=>exact absurd HA.out (by simp[ligatureref05_Encode.j2])
       | succ kj9 =>
        have H:=HA.out
        clear HA
        simp only[ligatureref05_Encode.j2]at H
        by_cases c14:x35_9=true
        ·subst c14
         have H1:(ligatureref05_Encode.l2 kj9 a2 x7_2 x9_2 ([]:List Int) 0 l0_0 l0_1)=some r:=Z36
         clear H
         have H:=H1
         clear H1
         have H':=Aside0.mk H
         clear H
         go_wp2
         repeat(go_quiet (fail);try go_wp2)
         go_loopg [10,11] kj9 (fun kq v10 v11 w'=>∃ (x10_4:List Int) (x11_4:Int),v11=.int .i64 x11_4/\Aside0 (ligatureref05_Encode.l2 kq a2 x7_2 x9_2 x10_4 x11_4 l0_0 l0_1=some r)/\Aside0 (kq≤kj9)/\Aside0 (Kd.R (Kd.int .i64) 3 w' w.heap.size (fun k_=>some k_≠(v10:Value).ownBlock) u7 x7_2)/\Aside0 (Kd.R (Kd.int .i64) 3 w' w.heap.size (fun k_=>some k_≠(u7:Value).ownBlock) v10 x10_4)/\Aside0 (w'.heap[gb220]?=some (.cells #[(.slice A0_0 l0_0.length c0_0),(.slice A0_1 l0_1.length c0_1)] 34 (0,0)))/\Aside0 (Below w.heap.size w w'))
         case atStart=>exact⟨(([]:List Int)),(0),(Z17),H',⟨Nat.le_refl _⟩,⟨by(with_reducible repeat(first|apply Kd.R_alloc|apply Kd.R_drewN|apply Kd.R_drew));exact Kd.R_mono HO_7.out (fun _ hk=>(Z7))⟩,⟨Z28⟩,⟨Z46⟩,⟨Z47⟩⟩
         case round =>
          clear H'
          try clear c1
          try clear p2
          try clear c5
          try clear c5b0
          try clear c6
          try clear c6b0
          try clear p6
          try clear p7
          try clear q7
          try clear hx7
          try clear c8
          try clear c9
          try clear c11
          try clear c11b0
          try clear c14
          try clear hcz12_0
          try clear hcz12_1
          try clear hcz13_0
          try clear hcz13_1
          try clear hfz12_0
          try clear hfz12_1
          try clear hfz13_0
          try clear hfz13_1
          try clear p2
          try clear p6
          try clear p7
          try clear q7
          obtain⟨x10_4,x11_4,rfl,HA,HK4,HO_7,HO_10,BK220,HB⟩:=hrel
          cases gk with
          | zero=>exact absurd HA.out (by simp[ligatureref05_Encode.l2])
          | succ k4 =>
           have H:=HA.out
           clear HA
           simp only[ligatureref05_Encode.l2]at H
           by_cases c15:x11_4<(x7_2.length:Int)
           ·rw[if_pos c15]at H
            have c15b0:=decide_eq_true c15
            clear c15
            by_cases c16:(wrap64 (x11_4+1))<(x7_2.length:Int)
            ·rw[if_pos c16]at H
             have c16b0:=decide_eq_true c16
             clear c16
             by_cases c17:0≤x11_4
             ·rw[if_pos c17]at H
              have c17b0:=decide_eq_true c17
              clear c17
              by_cases c18:0≤x9_2
              ·rw[if_pos c18]at H
               have c18b0:=decide_eq_true c18
               clear c18
               by_cases c19:x9_2<(l0_1.length:Int)
               ·rw[if_pos c19]at H
                have c19b0:=decide_eq_true c19
                clear c19
                by_cases c20:(rd x7_2 x11_4)=((rd_T91 l0_1 x9_2).f0)
                ·rw[if_pos c20]at H
                 have c20b0:((rd x7_2 x11_4)==((rd_T91 l0_1 x9_2).f0))=true:=beq_iff_eq.mpr c20
                 have c20b1:((rd x7_2 x11_4) != ((rd_T91 l0_1 x9_2).f0))=false:=bne_eq_false_iff_eq.mpr c20
                 clear c20
                 obtain⟨ji21,hji21⟩:∃ j_:Int,(wrap64 (x11_4+1))=j_:=⟨_,rfl⟩
                 replace H:(if 0≤(ji21) then (if (rd x7_2 (ji21))=((rd_T91 l0_1 x9_2).f1) then (if x10_4.length<17592186044416 then (ligatureref05_Encode.l2 k4 a2 x7_2 x9_2 (x10_4++[wrap64 (256+x9_2)]) (wrap64 ((ji21)+1)) l0_0 l0_1) else (none)) else (if x10_4.length<17592186044416 then (ligatureref05_Encode.l2 k4 a2 x7_2 x9_2 (x10_4++[rd x7_2 x11_4]) ji21 l0_0 l0_1) else (none))) else (none))=some r:=by first|(rw[hji21]at H;exact H)|(simp only[hji21]at H ⊢;exact H)
                 (try rw[hji21]at c16b0)
                 have hji21w:(IntKind.i64.wrap (x11_4+1))=ji21:=(i64_w _).trans hji21
                 by_cases c22:0≤(ji21)
                 ·rw[if_pos c22]at H
                  have c22b0:=decide_eq_true c22
                  clear c22
                  by_cases c23:(rd x7_2 (ji21))=((rd_T91 l0_1 x9_2).f1)
                  ·rw[if_pos c23]at H
                   have c23b0:((rd x7_2 (ji21))==((rd_T91 l0_1 x9_2).f1))=true:=beq_iff_eq.mpr c23
                   have c23b1:((rd x7_2 (ji21)) != ((rd_T91 l0_1 x9_2).f1))=false:=bne_eq_false_iff_eq.mpr c23
                   clear c23
                   by_cases c24:x10_4.length<17592186044416
                   ·rw[if_pos c24]at H
                    have LMc24:=Aside0.mk c24
                    clear c24
                    obtain⟨y228,hy228⟩:∃ y_:List Int,y_=(x10_4++[wrap64 (256+x9_2)]):=⟨_,rfl⟩
                    replace H:(ligatureref05_Encode.l2 k4 a2 x7_2 x9_2 y228 (wrap64 ((ji21)+1)) l0_0 l0_1)=some r:=by first|(rw[hy228];with_reducible exact H)|(have H2_:=(Option.bind_some _ _).symm.trans H;rw[hy228];with_reducible exact H2_)|(have H2_:=(Option.bind_some _ _).symm.trans H;with_reducible exact H2_)|with_reducible exact H|(rw[hy228];exact H)|exact H
                    have Ny228:=Aside0.mk hy228
                    clear hy228
                    have H':=Aside0.mk H
                    clear H
                    obtain⟨Ao25,co25,eo25⟩:=Kd.R_slice HO_7.out
                    subst eo25
                    have p224:0≤(x11_4:Int):=of_decide_eq_true (Z19)
                    have q224:x11_4<(x7_2.length:Int):=of_decide_eq_true (Z19)
                    obtain⟨ad224,e224,hx224_0⟩:=Kd.at_int (Kd.R_reads' HO_7.out).2.2 x11_4 p224 q224
                    cases e224
                    replace p224:=eq_true p224
                    replace q224:=eq_true q224
                    have hcz26_0:wr.cell? ⟨gb220,0,none⟩=some (.slice A0_0 l0_0.length c0_0):=(blk_cell BK220.out 0).trans rfl
                    have hcz26_1:wr.cell? ⟨gb220,1,none⟩=some (.slice A0_1 l0_1.length c0_1):=(blk_cell BK220.out 1).trans rfl
                    have hfz26_0:=blk_frozen BK220.out 0
                    have hfz26_1:=blk_frozen BK220.out 1
                    have p225:0≤(x9_2:Int):=of_decide_eq_true (Z19)
                    have q225:x9_2<(l0_1.length:Int):=of_decide_eq_true (Z19)
                    obtain⟨ad225,e225,hx225_0,hx225_1⟩:=at_T91 HR0_1.out x9_2 p225 q225
                    cases e225
                    replace hx225_0:=(HB.out.cell (World.block_lt_of_cell? w _ hx225_0)).trans hx225_0
                    replace hx225_1:=(HB.out.cell (World.block_lt_of_cell? w _ hx225_1)).trans hx225_1
                    replace p225:=eq_true p225
                    replace q225:=eq_true q225
                    have p226:0≤((ji21):Int):=of_decide_eq_true (Z19)
                    have q226:(ji21)<(x7_2.length:Int):=of_decide_eq_true (Z19)
                    obtain⟨ad226,e226,hx226_0⟩:=Kd.at_int (Kd.R_reads' HO_7.out).2.2 (ji21) p226 q226
                    obtain rfl:ad224=ad226:=(by injection e226)
                    replace p226:=eq_true p226
                    replace q226:=eq_true q226
                    have p227:0≤(x9_2:Int):=of_decide_eq_true (Z19)
                    have q227:x9_2<(l0_1.length:Int):=of_decide_eq_true (Z19)
                    obtain⟨ad227,e227,hx227_0,hx227_1⟩:=at_T91 HR0_1.out x9_2 p227 q227
                    obtain rfl:ad225=ad227:=(by injection e227)
                    replace hx227_0:=(HB.out.cell (World.block_lt_of_cell? w _ hx227_0)).trans hx227_0
                    replace hx227_1:=(HB.out.cell (World.block_lt_of_cell? w _ hx227_1)).trans hx227_1
                    replace p227:=eq_true p227
                    replace q227:=eq_true q227
                    go_wp2_with (first|((with_reducible refine gate_builtin (b:=.append) (xs:=#[.tmp 76,.tmp 79]) rfl ?_);at_builtin;refine Kd.R_append (Kd.int .i64) (w0:=w) w.heap.size rfl (.tmp 76) (.tmp 79) 41 3 (.int .i64 0) 8 rfl Tryz.underlying41 info3 rfl (Z32) (Z1) u10 x10_4 (wrap64 (256+x9_2)) [.int .i64 (wrap64 (256+x9_2))] (fun k_=>some k_≠(.slice (some ad224) x7_2.length co25:Value).ownBlock) (fun _=>False) rfl rfl ?aP (fun _ hk=>hk.elim) ?aF ?aO ?aB ?aS ?aL ?_;(case aP=>exact rfl);(case aB=>exact(Z47));(case aF=>exact Z182);(case aO=>exact(Z50));(case aS=>exact Z181);(case aL=>have:=LMc24.out;omega);intro v229 w27 ho hb hg hat;rw[←Ny228.out]at ho;have n0_:=Aside0.mk (Kd.R_after (ok:=(fun _=>True)) (Z51) hg hat);have n1_:=Aside0.mk (blk_grown (g:=gb220) (o:=.cells #[.slice A0_0 l0_0.length c0_0,.slice (some ad225) l0_1.length c0_1] 34 (0,0)) (Z46) hg (Kd.R_ne HO_10.out BK220.out (Z32)));have n2_:=Aside0.mk (hb);have n3_:=Aside0.mk (ho);clear HO_7;clear BK220;clear HB;clear HO_10;have HO_7:=n0_;have BK220:=n1_;have HB:=n2_;have HO230:=n3_;clear n0_ n1_ n2_ n3_;clear ho hb hg hat))
                    repeat(go_quiet (first|((with_reducible refine gate_builtin (b:=.append) (xs:=#[.tmp 76,.tmp 79]) rfl ?_);at_builtin;refine Kd.R_append (Kd.int .i64) (w0:=w) w.heap.size rfl (.tmp 76) (.tmp 79) 41 3 (.int .i64 0) 8 rfl Tryz.underlying41 info3 rfl (Z32) (Z1) u10 x10_4 (wrap64 (256+x9_2)) [.int .i64 (wrap64 (256+x9_2))] (fun k_=>some k_≠(.slice (some ad224) x7_2.length co25:Value).ownBlock) (fun _=>False) rfl rfl ?aP (fun _ hk=>hk.elim) ?aF ?aO ?aB ?aS ?aL ?_;(case aP=>exact rfl);(case aB=>exact(Z47));(case aF=>exact Z182);(case aO=>exact(Z50));(case aS=>exact Z181);(case aL=>have:=LMc24.out;omega);intro v229 w27 ho hb hg hat;rw[←Ny228.out]at ho;have n0_:=Aside0.mk (Kd.R_after (ok:=(fun _=>True)) (Z51) hg hat);have n1_:=Aside0.mk (blk_grown (g:=gb220) (o:=.cells #[.slice A0_0 l0_0.length c0_0,.slice (some ad225) l0_1.length c0_1] 34 (0,0)) (Z46) hg (Kd.R_ne HO_10.out BK220.out (Z32)));have n2_:=Aside0.mk (hb);have n3_:=Aside0.mk (ho);clear HO_7;clear BK220;clear HB;clear HO_10;have HO_7:=n0_;have BK220:=n1_;have HB:=n2_;have HO230:=n3_;clear n0_ n1_ n2_ n3_;clear ho hb hg hat));try go_wp2_with (first|((with_reducible refine gate_builtin (b:=.append) (xs:=#[.tmp 76,.tmp 79]) rfl ?_);at_builtin;refine Kd.R_append (Kd.int .i64) (w0:=w) w.heap.size rfl (.tmp 76) (.tmp 79) 41 3 (.int .i64 0) 8 rfl Tryz.underlying41 info3 rfl (Z32) (Z1) u10 x10_4 (wrap64 (256+x9_2)) [.int .i64 (wrap64 (256+x9_2))] (fun k_=>some k_≠(.slice (some ad224) x7_2.length co25:Value).ownBlock) (fun _=>False) rfl rfl ?aP (fun _ hk=>hk.elim) ?aF ?aO ?aB ?aS ?aL ?_;(case aP=>exact rfl);(case aB=>exact(Z47));(case aF=>exact Z182);(case aO=>exact(Z50));(case aS=>exact Z181);(case aL=>have:=LMc24.out;omega);intro v229 w27 ho hb hg hat;rw[←Ny228.out]at ho;have n0_:=Aside0.mk (Kd.R_after (ok:=(fun _=>True)) (Z51) hg hat);have n1_:=Aside0.mk (blk_grown (g:=gb220) (o:=.cells #[.slice A0_0 l0_0.length c0_0,.slice (some ad225) l0_1.length c0_1] 34 (0,0)) (Z46) hg (Kd.R_ne HO_10.out BK220.out (Z32)));have n2_:=Aside0.mk (hb);have n3_:=Aside0.mk (ho);clear HO_7;clear BK220;clear HB;clear HO_10;have HO_7:=n0_;have BK220:=n1_;have HB:=n2_;have HO230:=n3_;clear n0_ n1_ n2_ n3_;clear ho hb hg hat)))
                    go_roundg k4
                    case measure=>have:=HK1.out;have:=HK2.out;have:=HJ9.out;have:=HK4.out;omega
                    case rel=>exact⟨(y228),(wrap64 ((ji21)+1)),(Z52),H',⟨Z53⟩,⟨Z54⟩,⟨by(with_reducible repeat(first|apply Kd.R_alloc|apply Kd.R_drewN|apply Kd.R_drew));exact HO230.out⟩,⟨Z46⟩,⟨Z47⟩⟩
                   ·rw[if_neg c24]at H
                    exact absurd H (by simp)
                  ·rw[if_neg c23]at H
                   have c23b0:((rd x7_2 (ji21))==((rd_T91 l0_1 x9_2).f1))=false:=beq_eq_false_iff_ne.mpr c23
                   have c23b1:((rd x7_2 (ji21)) != ((rd_T91 l0_1 x9_2).f1))=true:=bne_iff_ne.mpr c23
                   by_cases c28:x10_4.length<17592186044416
                   ·rw[if_pos c28]at H
                    have LMc28:=Aside0.mk c28
                    clear c28
                    obtain⟨y232,hy232⟩:∃ y_:List Int,y_=(x10_4++[rd x7_2 x11_4]):=⟨_,rfl⟩
                    replace H:(ligatureref05_Encode.l2 k4 a2 x7_2 x9_2 y232 ji21 l0_0 l0_1)=some r:=by first|(rw[hy232];with_reducible exact H)|(have H2_:=(Option.bind_some _ _).symm.trans H;rw[hy232];with_reducible exact H2_)|(have H2_:=(Option.bind_some _ _).symm.trans H;with_reducible exact H2_)|with_reducible exact H|(rw[hy232];exact H)|exact H
                    have Ny232:=Aside0.mk hy232
                    clear hy232
                    have H':=Aside0.mk H
                    clear H
                    obtain⟨Ao29,co29,eo29⟩:=Kd.R_slice HO_7.out
                    subst eo29
                    have p224:0≤(x11_4:Int):=of_decide_eq_true (Z19)
                    have q224:x11_4<(x7_2.length:Int):=of_decide_eq_true (Z19)
                    obtain⟨ad224,e224,hx224_0⟩:=Kd.at_int (Kd.R_reads' HO_7.out).2.2 x11_4 p224 q224
                    cases e224
                    replace p224:=eq_true p224
                    replace q224:=eq_true q224
                    have hcz30_0:wr.cell? ⟨gb220,0,none⟩=some (.slice A0_0 l0_0.length c0_0):=(blk_cell BK220.out 0).trans rfl
                    have hcz30_1:wr.cell? ⟨gb220,1,none⟩=some (.slice A0_1 l0_1.length c0_1):=(blk_cell BK220.out 1).trans rfl
                    have hfz30_0:=blk_frozen BK220.out 0
                    have hfz30_1:=blk_frozen BK220.out 1
                    have p225:0≤(x9_2:Int):=of_decide_eq_true (Z19)
                    have q225:x9_2<(l0_1.length:Int):=of_decide_eq_true (Z19)
                    obtain⟨ad225,e225,hx225_0,hx225_1⟩:=at_T91 HR0_1.out x9_2 p225 q225
                    cases e225
                    replace hx225_0:=(HB.out.cell (World.block_lt_of_cell? w _ hx225_0)).trans hx225_0
                    replace hx225_1:=(HB.out.cell (World.block_lt_of_cell? w _ hx225_1)).trans hx225_1
                    replace p225:=eq_true p225
                    replace q225:=eq_true q225
                    have p226:0≤((ji21):Int):=of_decide_eq_true (Z19)
                    have q226:(ji21)<(x7_2.length:Int):=of_decide_eq_true (Z19)
                    obtain⟨ad226,e226,hx226_0⟩:=Kd.at_int (Kd.R_reads' HO_7.out).2.2 (ji21) p226 q226
                    obtain rfl:ad224=ad226:=(by injection e226)
                    replace p226:=eq_true p226
                    replace q226:=eq_true q226
                    have p227:0≤(x9_2:Int):=of_decide_eq_true (Z19)
                    have q227:x9_2<(l0_1.length:Int):=of_decide_eq_true (Z19)
                    obtain⟨ad227,e227,hx227_0,hx227_1⟩:=at_T91 HR0_1.out x9_2 p227 q227
                    obtain rfl:ad225=ad227:=(by injection e227)
                    replace hx227_0:=(HB.out.cell (World.block_lt_of_cell? w _ hx227_0)).trans hx227_0
                    replace hx227_1:=(HB.out.cell (World.block_lt_of_cell? w _ hx227_1)).trans hx227_1
                    replace p227:=eq_true p227
                    replace q227:=eq_true q227
                    have p231:0≤(x11_4:Int):=of_decide_eq_true (Z19)
                    have q231:x11_4<(x7_2.length:Int):=of_decide_eq_true (Z19)
                    obtain⟨ad231,e231,hx231_0⟩:=Kd.at_int (Kd.R_reads' HO_7.out).2.2 x11_4 p231 q231
                    obtain rfl:ad224=ad231:=(by injection e231)
                    replace p231:=eq_true p231
                    replace q231:=eq_true q231
                    go_wp2_with (first|((with_reducible refine gate_builtin (b:=.append) (xs:=#[.tmp 83,.tmp 88]) rfl ?_);at_builtin;refine Kd.R_append (Kd.int .i64) (w0:=w) w.heap.size rfl (.tmp 83) (.tmp 88) 41 3 (.int .i64 0) 8 rfl Tryz.underlying41 info3 rfl (Z32) (Z1) u10 x10_4 (rd x7_2 x11_4) [.int .i64 (rd x7_2 x11_4)] (fun k_=>some k_≠(.slice (some ad224) x7_2.length co29:Value).ownBlock) (fun _=>False) rfl rfl ?aP (fun _ hk=>hk.elim) ?aF ?aO ?aB ?aS ?aL ?_;(case aP=>exact rfl);(case aB=>exact(Z47));(case aF=>exact Z182);(case aO=>exact(Z50));(case aS=>exact Z181);(case aL=>have:=LMc28.out;omega);intro v233 w31 ho hb hg hat;rw[←Ny232.out]at ho;have n0_:=Aside0.mk (Kd.R_after (ok:=(fun _=>True)) (Z51) hg hat);have n1_:=Aside0.mk (blk_grown (g:=gb220) (o:=.cells #[.slice A0_0 l0_0.length c0_0,.slice (some ad225) l0_1.length c0_1] 34 (0,0)) (Z46) hg (Kd.R_ne HO_10.out BK220.out (Z32)));have n2_:=Aside0.mk (hb);have n3_:=Aside0.mk (ho);clear HO_7;clear BK220;clear HB;clear HO_10;have HO_7:=n0_;have BK220:=n1_;have HB:=n2_;have HO234:=n3_;clear n0_ n1_ n2_ n3_;clear ho hb hg hat))
                    repeat(go_quiet (first|((with_reducible refine gate_builtin (b:=.append) (xs:=#[.tmp 83,.tmp 88]) rfl ?_);at_builtin;refine Kd.R_append (Kd.int .i64) (w0:=w) w.heap.size rfl (.tmp 83) (.tmp 88) 41 3 (.int .i64 0) 8 rfl Tryz.underlying41 info3 rfl (Z32) (Z1) u10 x10_4 (rd x7_2 x11_4) [.int .i64 (rd x7_2 x11_4)] (fun k_=>some k_≠(.slice (some ad224) x7_2.length co29:Value).ownBlock) (fun _=>False) rfl rfl ?aP (fun _ hk=>hk.elim) ?aF ?aO ?aB ?aS ?aL ?_;(case aP=>exact rfl);(case aB=>exact(Z47));(case aF=>exact Z182);(case aO=>exact(Z50));(case aS=>exact Z181);(case aL=>have:=LMc28.out;omega);intro v233 w31 ho hb hg hat;rw[←Ny232.out]at ho;have n0_:=Aside0.mk (Kd.R_after (ok:=(fun _=>True)) (Z51) hg hat);have n1_:=Aside0.mk (blk_grown (g:=gb220) (o:=.cells #[.slice A0_0 l0_0.length c0_0,.slice (some ad225) l0_1.length c0_1] 34 (0,0)) (Z46) hg (Kd.R_ne HO_10.out BK220.out (Z32)));have n2_:=Aside0.mk (hb);have n3_:=Aside0.mk (ho);clear HO_7;clear BK220;clear HB;clear HO_10;have HO_7:=n0_;have BK220:=n1_;have HB:=n2_;have HO234:=n3_;clear n0_ n1_ n2_ n3_;clear ho hb hg hat));try go_wp2_with (first|((with_reducible refine gate_builtin (b:=.append) (xs:=#[.tmp 83,.tmp 88]) rfl ?_);at_builtin;refine Kd.R_append (Kd.int .i64) (w0:=w) w.heap.size rfl (.tmp 83) (.tmp 88) 41 3 (.int .i64 0) 8 rfl Tryz.underlying41 info3 rfl (Z32) (Z1) u10 x10_4 (rd x7_2 x11_4) [.int .i64 (rd x7_2 x11_4)] (fun k_=>some k_≠(.slice (some ad224) x7_2.length co29:Value).ownBlock) (fun _=>False) rfl rfl ?aP (fun _ hk=>hk.elim) ?aF ?aO ?aB ?aS ?aL ?_;(case aP=>exact rfl);(case aB=>exact(Z47));(case aF=>exact Z182);(case aO=>exact(Z50));(case aS=>exact Z181);(case aL=>have:=LMc28.out;omega);intro v233 w31 ho hb hg hat;rw[←Ny232.out]at ho;have n0_:=Aside0.mk (Kd.R_after (ok:=(fun _=>True)) (Z51) hg hat);have n1_:=Aside0.mk (blk_grown (g:=gb220) (o:=.cells #[.slice A0_0 l0_0.length c0_0,.slice (some ad225) l0_1.length c0_1] 34 (0,0)) (Z46) hg (Kd.R_ne HO_10.out BK220.out (Z32)));have n2_:=Aside0.mk (hb);have n3_:=Aside0.mk (ho);clear HO_7;clear BK220;clear HB;clear HO_10;have HO_7:=n0_;have BK220:=n1_;have HB:=n2_;have HO234:=n3_;clear n0_ n1_ n2_ n3_;clear ho hb hg hat)))
                    go_roundg k4
                    case measure=>have:=HK1.out;have:=HK2.out;have:=HJ9.out;have:=HK4.out;omega
                    case rel=>exact⟨(y232),(ji21),(Z52),H',⟨Z53⟩,⟨Z54⟩,⟨by(with_reducible repeat(first|apply Kd.R_alloc|apply Kd.R_drewN|apply Kd.R_drew));exact HO234.out⟩,⟨Z46⟩,⟨Z47⟩⟩
                   ·rw[if_neg c28]at H
                    exact absurd H (by simp)
                 ·rw[if_neg c22]at H
                  exact absurd H (by simp)
                ·rw[if_neg c20]at H
                 have c20b0:((rd x7_2 x11_4)==((rd_T91 l0_1 x9_2).f0))=false:=beq_eq_false_iff_ne.mpr c20
                 have c20b1:((rd x7_2 x11_4) != ((rd_T91 l0_1 x9_2).f0))=true:=bne_iff_ne.mpr c20
                 by_cases c32:x10_4.length<17592186044416
                 ·rw[if_pos c32]at H
                  have LMc32:=Aside0.mk c32
                  clear c32
                  obtain⟨y236,hy236⟩:∃ y_:List Int,y_=(x10_4++[rd x7_2 x11_4]):=⟨_,rfl⟩
                  replace H:(ligatureref05_Encode.l2 k4 a2 x7_2 x9_2 y236 (wrap64 (x11_4+1)) l0_0 l0_1)=some r:=by first|(rw[hy236];with_reducible exact H)|(have H2_:=(Option.bind_some _ _).symm.trans H;rw[hy236];with_reducible exact H2_)|(have H2_:=(Option.bind_some _ _).symm.trans H;with_reducible exact H2_)|with_reducible exact H|(rw[hy236];exact H)|exact H
                  have Ny236:=Aside0.mk hy236
                  clear hy236
                  have H':=Aside0.mk H
                  clear H
                  obtain⟨Ao33,co33,eo33⟩:=Kd.R_slice HO_7.out
                  subst eo33
                  have p224:0≤(x11_4:Int):=of_decide_eq_true (Z19)
                  have q224:x11_4<(x7_2.length:Int):=of_decide_eq_true (Z19)
                  obtain⟨ad224,e224,hx224_0⟩:=Kd.at_int (Kd.R_reads' HO_7.out).2.2 x11_4 p224 q224
                  cases e224
                  replace p224:=eq_true p224
                  replace q224:=eq_true q224
                  have hcz34_0:wr.cell? ⟨gb220,0,none⟩=some (.slice A0_0 l0_0.length c0_0):=(blk_cell BK220.out 0).trans rfl
                  have hcz34_1:wr.cell? ⟨gb220,1,none⟩=some (.slice A0_1 l0_1.length c0_1):=(blk_cell BK220.out 1).trans rfl
                  have hfz34_0:=blk_frozen BK220.out 0
                  have hfz34_1:=blk_frozen BK220.out 1
                  have p225:0≤(x9_2:Int):=of_decide_eq_true (Z19)
                  have q225:x9_2<(l0_1.length:Int):=of_decide_eq_true (Z19)
                  obtain⟨ad225,e225,hx225_0,hx225_1⟩:=at_T91 HR0_1.out x9_2 p225 q225
                  cases e225
                  replace hx225_0:=(HB.out.cell (World.block_lt_of_cell? w _ hx225_0)).trans hx225_0
                  replace hx225_1:=(HB.out.cell (World.block_lt_of_cell? w _ hx225_1)).trans hx225_1
                  replace p225:=eq_true p225
                  replace q225:=eq_true q225
                  have p235:0≤(x11_4:Int):=of_decide_eq_true (Z19)
                  have q235:x11_4<(x7_2.length:Int):=of_decide_eq_true (Z19)
                  obtain⟨ad235,e235,hx235_0⟩:=Kd.at_int (Kd.R_reads' HO_7.out).2.2 x11_4 p235 q235
                  obtain rfl:ad224=ad235:=(by injection e235)
                  replace p235:=eq_true p235
                  replace q235:=eq_true q235
                  go_wp2_with (first|((with_reducible refine gate_builtin (b:=.append) (xs:=#[.tmp 83,.tmp 88]) rfl ?_);at_builtin;refine Kd.R_append (Kd.int .i64) (w0:=w) w.heap.size rfl (.tmp 83) (.tmp 88) 41 3 (.int .i64 0) 8 rfl Tryz.underlying41 info3 rfl (Z32) (Z1) u10 x10_4 (rd x7_2 x11_4) [.int .i64 (rd x7_2 x11_4)] (fun k_=>some k_≠(.slice (some ad224) x7_2.length co33:Value).ownBlock) (fun _=>False) rfl rfl ?aP (fun _ hk=>hk.elim) ?aF ?aO ?aB ?aS ?aL ?_;(case aP=>exact rfl);(case aB=>exact(Z47));(case aF=>exact Z182);(case aO=>exact(Z50));(case aS=>exact Z181);(case aL=>have:=LMc32.out;omega);intro v237 w35 ho hb hg hat;rw[←Ny236.out]at ho;have n0_:=Aside0.mk (Kd.R_after (ok:=(fun _=>True)) (Z51) hg hat);have n1_:=Aside0.mk (blk_grown (g:=gb220) (o:=.cells #[.slice A0_0 l0_0.length c0_0,.slice (some ad225) l0_1.length c0_1] 34 (0,0)) (Z46) hg (Kd.R_ne HO_10.out BK220.out (Z32)));have n2_:=Aside0.mk (hb);have n3_:=Aside0.mk (ho);clear HO_7;clear BK220;clear HB;clear HO_10;have HO_7:=n0_;have BK220:=n1_;have HB:=n2_;have HO238:=n3_;clear n0_ n1_ n2_ n3_;clear ho hb hg hat))
                  repeat(go_quiet (first|((with_reducible refine gate_builtin (b:=.append) (xs:=#[.tmp 83,.tmp 88]) rfl ?_);at_builtin;refine Kd.R_append (Kd.int .i64) (w0:=w) w.heap.size rfl (.tmp 83) (.tmp 88) 41 3 (.int .i64 0) 8 rfl Tryz.underlying41 info3 rfl (Z32) (Z1) u10 x10_4 (rd x7_2 x11_4) [.int .i64 (rd x7_2 x11_4)] (fun k_=>some k_≠(.slice (some ad224) x7_2.length co33:Value).ownBlock) (fun _=>False) rfl rfl ?aP (fun _ hk=>hk.elim) ?aF ?aO ?aB ?aS ?aL ?_;(case aP=>exact rfl);(case aB=>exact(Z47));(case aF=>exact Z182);(case aO=>exact(Z50));(case aS=>exact Z181);(case aL=>have:=LMc32.out;omega);intro v237 w35 ho hb hg hat;rw[←Ny236.out]at ho;have n0_:=Aside0.mk (Kd.R_after (ok:=(fun _=>True)) (Z51) hg hat);have n1_:=Aside0.mk (blk_grown (g:=gb220) (o:=.cells #[.slice A0_0 l0_0.length c0_0,.slice (some ad225) l0_1.length c0_1] 34 (0,0)) (Z46) hg (Kd.R_ne HO_10.out BK220.out (Z32)));have n2_:=Aside0.mk (hb);have n3_:=Aside0.mk (ho);clear HO_7;clear BK220;clear HB;clear HO_10;have HO_7:=n0_;have BK220:=n1_;have HB:=n2_;have HO238:=n3_;clear n0_ n1_ n2_ n3_;clear ho hb hg hat));try go_wp2_with (first|((with_reducible refine gate_builtin (b:=.append) (xs:=#[.tmp 83,.tmp 88]) rfl ?_);at_builtin;refine Kd.R_append (Kd.int .i64) (w0:=w) w.heap.size rfl (.tmp 83) (.tmp 88) 41 3 (.int .i64 0) 8 rfl Tryz.underlying41 info3 rfl (Z32) (Z1) u10 x10_4 (rd x7_2 x11_4) [.int .i64 (rd x7_2 x11_4)] (fun k_=>some k_≠(.slice (some ad224) x7_2.length co33:Value).ownBlock) (fun _=>False) rfl rfl ?aP (fun _ hk=>hk.elim) ?aF ?aO ?aB ?aS ?aL ?_;(case aP=>exact rfl);(case aB=>exact(Z47));(case aF=>exact Z182);(case aO=>exact(Z50));(case aS=>exact Z181);(case aL=>have:=LMc32.out;omega);intro v237 w35 ho hb hg hat;rw[←Ny236.out]at ho;have n0_:=Aside0.mk (Kd.R_after (ok:=(fun _=>True)) (Z51) hg hat);have n1_:=Aside0.mk (blk_grown (g:=gb220) (o:=.cells #[.slice A0_0 l0_0.length c0_0,.slice (some ad225) l0_1.length c0_1] 34 (0,0)) (Z46) hg (Kd.R_ne HO_10.out BK220.out (Z32)));have n2_:=Aside0.mk (hb);have n3_:=Aside0.mk (ho);clear HO_7;clear BK220;clear HB;clear HO_10;have HO_7:=n0_;have BK220:=n1_;have HB:=n2_;have HO238:=n3_;clear n0_ n1_ n2_ n3_;clear ho hb hg hat)))
                  go_roundg k4
                  case measure=>have:=HK1.out;have:=HK2.out;have:=HJ9.out;have:=HK4.out;omega
                  case rel=>exact⟨(y236),(wrap64 (x11_4+1)),(Z17),H',⟨Z53⟩,⟨Z54⟩,⟨by(with_reducible repeat(first|apply Kd.R_alloc|apply Kd.R_drewN|apply Kd.R_drew));exact HO238.out⟩,⟨Z46⟩,⟨Z47⟩⟩
                 ·rw[if_neg c32]at H
                  exact absurd H (by simp)
               ·rw[if_neg c19]at H
                exact absurd H (by simp)
              ·rw[if_neg c18]at H
               exact absurd H (by simp)
             ·rw[if_neg c17]at H
              exact absurd H (by simp)
            ·rw[if_neg c16]at H
             have c16b0:=decide_eq_false c16
             clear c16
             by_cases c36:0≤x11_4
             ·rw[if_pos c36]at H
              have c36b0:=decide_eq_true c36
              clear c36
              by_cases c37:x10_4.length<17592186044416
              ·rw[if_pos c37]at H
               have LMc37:=Aside0.mk c37
               clear c37
               obtain⟨y240,hy240⟩:∃ y_:List Int,y_=(x10_4++[rd x7_2 x11_4]):=⟨_,rfl⟩
               replace H:(ligatureref05_Encode.l2 k4 a2 x7_2 x9_2 y240 (wrap64 (x11_4+1)) l0_0 l0_1)=some r:=by first|(rw[hy240];with_reducible exact H)|(have H2_:=(Option.bind_some _ _).symm.trans H;rw[hy240];with_reducible exact H2_)|(have H2_:=(Option.bind_some _ _).symm.trans H;with_reducible exact H2_)|with_reducible exact H|(rw[hy240];exact H)|exact H
               have Ny240:=Aside0.mk hy240
               clear hy240
               have H':=Aside0.mk H
               clear H
               obtain⟨Ao38,co38,eo38⟩:=Kd.R_slice HO_7.out
               subst eo38
               have p239:0≤(x11_4:Int):=of_decide_eq_true (Z19)
               have q239:x11_4<(x7_2.length:Int):=of_decide_eq_true (Z19)
               obtain⟨ad239,e239,hx239_0⟩:=Kd.at_int (Kd.R_reads' HO_7.out).2.2 x11_4 p239 q239
               cases e239
               replace p239:=eq_true p239
               replace q239:=eq_true q239
               go_wp2_with (first|((with_reducible refine gate_builtin (b:=.append) (xs:=#[.tmp 83,.tmp 88]) rfl ?_);at_builtin;refine Kd.R_append (Kd.int .i64) (w0:=w) w.heap.size rfl (.tmp 83) (.tmp 88) 41 3 (.int .i64 0) 8 rfl Tryz.underlying41 info3 rfl (Z32) (Z1) u10 x10_4 (rd x7_2 x11_4) [.int .i64 (rd x7_2 x11_4)] (fun k_=>some k_≠(.slice (some ad239) x7_2.length co38:Value).ownBlock) (fun _=>False) rfl rfl ?aP (fun _ hk=>hk.elim) ?aF ?aO ?aB ?aS ?aL ?_;(case aP=>exact rfl);(case aB=>exact(Z47));(case aF=>exact Z182);(case aO=>exact(Z50));(case aS=>exact Z181);(case aL=>have:=LMc37.out;omega);intro v241 w39 ho hb hg hat;rw[←Ny240.out]at ho;have n0_:=Aside0.mk (Kd.R_after (ok:=(fun _=>True)) (Z51) hg hat);have n1_:=Aside0.mk (blk_grown (g:=gb220) (o:=.cells #[.slice A0_0 l0_0.length c0_0,.slice A0_1 l0_1.length c0_1] 34 (0,0)) (Z46) hg (Kd.R_ne HO_10.out BK220.out (Z32)));have n2_:=Aside0.mk (hb);have n3_:=Aside0.mk (ho);clear HO_7;clear BK220;clear HB;clear HO_10;have HO_7:=n0_;have BK220:=n1_;have HB:=n2_;have HO242:=n3_;clear n0_ n1_ n2_ n3_;clear ho hb hg hat))
               repeat(go_quiet (first|((with_reducible refine gate_builtin (b:=.append) (xs:=#[.tmp 83,.tmp 88]) rfl ?_);at_builtin;refine Kd.R_append (Kd.int .i64) (w0:=w) w.heap.size rfl (.tmp 83) (.tmp 88) 41 3 (.int .i64 0) 8 rfl Tryz.underlying41 info3 rfl (Z32) (Z1) u10 x10_4 (rd x7_2 x11_4) [.int .i64 (rd x7_2 x11_4)] (fun k_=>some k_≠(.slice (some ad239) x7_2.length co38:Value).ownBlock) (fun _=>False) rfl rfl ?aP (fun _ hk=>hk.elim) ?aF ?aO ?aB ?aS ?aL ?_;(case aP=>exact rfl);(case aB=>exact(Z47));(case aF=>exact Z182);(case aO=>exact(Z50));(case aS=>exact Z181);(case aL=>have:=LMc37.out;omega);intro v241 w39 ho hb hg hat;rw[←Ny240.out]at ho;have n0_:=Aside0.mk (Kd.R_after (ok:=(fun _=>True)) (Z51) hg hat);have n1_:=Aside0.mk (blk_grown (g:=gb220) (o:=.cells #[.slice A0_0 l0_0.length c0_0,.slice A0_1 l0_1.length c0_1] 34 (0,0)) (Z46) hg (Kd.R_ne HO_10.out BK220.out (Z32)));have n2_:=Aside0.mk (hb);have n3_:=Aside0.mk (ho);clear HO_7;clear BK220;clear HB;clear HO_10;have HO_7:=n0_;have BK220:=n1_;have HB:=n2_;have HO242:=n3_;clear n0_ n1_ n2_ n3_;clear ho hb hg hat));try go_wp2_with (first|((with_reducible refine gate_builtin (b:=.append) (xs:=#[.tmp 83,.tmp 88]) rfl ?_);at_builtin;refine Kd.R_append (Kd.int .i64) (w0:=w) w.heap.size rfl (.tmp 83) (.tmp 88) 41 3 (.int .i64 0) 8 rfl Tryz.underlying41 info3 rfl (Z32) (Z1) u10 x10_4 (rd x7_2 x11_4) [.int .i64 (rd x7_2 x11_4)] (fun k_=>some k_≠(.slice (some ad239) x7_2.length co38:Value).ownBlock) (fun _=>False) rfl rfl ?aP (fun _ hk=>hk.elim) ?aF ?aO ?aB ?aS ?aL ?_;(case aP=>exact rfl);(case aB=>exact(Z47));(case aF=>exact Z182);(case aO=>exact(Z50));(case aS=>exact Z181);(case aL=>have:=LMc37.out;omega);intro v241 w39 ho hb hg hat;rw[←Ny240.out]at ho;have n0_:=Aside0.mk (Kd.R_after (ok:=(fun _=>True)) (Z51) hg hat);have n1_:=Aside0.mk (blk_grown (g:=gb220) (o:=.cells #[.slice A0_0 l0_0.length c0_0,.slice A0_1 l0_1.length c0_1] 34 (0,0)) (Z46) hg (Kd.R_ne HO_10.out BK220.out (Z32)));have n2_:=Aside0.mk (hb);have n3_:=Aside0.mk (ho);clear HO_7;clear BK220;clear HB;clear HO_10;have HO_7:=n0_;have BK220:=n1_;have HB:=n2_;have HO242:=n3_;clear n0_ n1_ n2_ n3_;clear ho hb hg hat)))
               go_roundg k4
               case measure=>have:=HK1.out;have:=HK2.out;have:=HJ9.out;have:=HK4.out;omega
               case rel=>exact⟨(y240),(wrap64 (x11_4+1)),(Z17),H',⟨Z53⟩,⟨Z54⟩,⟨by(with_reducible repeat(first|apply Kd.R_alloc|apply Kd.R_drewN|apply Kd.R_drew));exact HO242.out⟩,⟨Z46⟩,⟨Z47⟩⟩
              ·rw[if_neg c37]at H
               exact absurd H (by simp)
             ·rw[if_neg c36]at H
              exact absurd H (by simp)
           ·rw[if_neg c15]at H
            have c15b0:=decide_eq_false c15
            clear c15
            have H':=Aside0.mk H
            clear H
            obtain⟨Ao40,co40,eo40⟩:=Kd.R_slice HO_7.out
            subst eo40
            go_wp2
            repeat(go_quiet (fail);try go_wp2)
            go_roundg k4
            case measure=>have:=HK1.out;have:=HK2.out;have:=HJ9.out;have:=HK4.out;omega
            case rel=>exact⟨(x10_4),(wrap64 (x9_2+1)),(Z17),H',⟨Z53⟩,⟨by(with_reducible repeat(first|apply Kd.R_alloc|apply Kd.R_drewN|apply Kd.R_drew));exact Kd.R_mono HO_10.out (fun _ hk=>trivial)⟩,⟨Z46⟩,⟨Z47⟩⟩
        ·replace c14:=Bool.eq_false_iff.mpr c14
         subst c14
         have H1:(some x7_2)=some r:=Z179
         clear H
         have H:=H1
         clear H1
         obtain rfl:=Option.some.inj H
         go_wp2
         repeat(go_quiet (fail);try go_wp2)
         go_ret
         exact⟨_,Z22,Z48,Z47⟩
end Go.Proofs.YtkffhgiiejbnaaaGreat.Rf
namespace Go.Proofs.YtkffhgiiejbnaaaGreat.Rf
open Go.RowKit YtkffhgiiejbnaaaGreatW.PrintWords YtkffhgiiejbnaaaGreatW.PrintLast YtkffhgiiejbnaaaGreatW.PrintMore
attribute [local go_sem] max2_int min2_int max_two min_two max_three min_three max_four min_four
def ligatureref05_All.f (k:Nat) (l0_0:List ByteArray) (l0_1:List (S91)) (a1:ByteArray):Option (List Int):=(ligatureref05_Encode.f k l0_0 l0_1 a1 (l0_0.length:Int)).bind fun t244=>(some t244)
theorem ligatureref05_All.calls (k:Nat) (A0_0:Option Addr) (c0_0:Nat) (l0_0:List ByteArray) (A0_1:Option Addr) (c0_1:Nat) (l0_1:List (S91)) (a1:ByteArray) (r:List Int) (w:World) (hr0_0:Kd.C Kd.string w A0_0 l0_0.length l0_0) (hc0_0:l0_0.length≤c0_0) (hr0_1:Kd.C k91 w A0_1 l0_1.length l0_1) (hc0_1:l0_1.length≤c0_1) (h:ligatureref05_All.f k l0_0 l0_1 a1=some r) :
  Calls Tryz.prog 64 #[.agg #[.slice A0_0 l0_0.length c0_0,.slice A0_1 l0_1.length c0_1],.string a1] w fun e w'=>∃ v0_:Value,e=.returned (v0_)/\Kd.R (Kd.int .i64) 3 w' w.heap.size (fun _=>True) v0_ r/\Below w.heap.size w w':=by
 have hu34:=Tryz.underlying34
 have HR0_0:=Aside0.mk hr0_0
 have HC0_0:=Aside0.mk hc0_0
 clear hr0_0 hc0_0
 have HR0_1:=Aside0.mk hr0_1
 have HC0_1:=Aside0.mk hc0_1
 clear hr0_1 hc0_1
 have HB:=Aside0.mk (Below.refl w.heap.size w)
 have H:((ligatureref05_Encode.f k l0_0 l0_1 a1 (l0_0.length:Int)).bind fun t244=>(some t244))=some r:=h
 clear h
 replace H:=Option.bind_eq_some_iff.mp H
 obtain⟨t244,A30,H⟩:=H
 replace H:(some t244)=some r:=H
 have A3:=Aside0.mk A30
 clear A30
 obtain rfl:=Option.some.inj H
 go_enter Tryz.func64,Tryz.ntmps64
 go_wp2_with (first|((with_reducible refine gate_dst (N:=2) rfl ?_);refine bxE 2 (#[.slice A0_0 l0_0.length c0_0,.slice A0_1 l0_1.length c0_1]) 34 ?_;intro gb243 hg w4 hbox hb;have BK243:=Aside0.mk (hbox);have GW243:=Aside0.mk ((Z178:w.heap.size≤gb243));have GE243:=GW243;replace HB:=Aside0.mk (below_step (Z21) hb);clear hb hbox hg;have hcz5_0:w4.cell? ⟨gb243,0,none⟩=some (.slice A0_0 l0_0.length c0_0):=(blk_cell BK243.out 0).trans rfl;have hcz5_1:w4.cell? ⟨gb243,1,none⟩=some (.slice A0_1 l0_1.length c0_1):=(blk_cell BK243.out 1).trans rfl;have hfz5_0:=blk_frozen BK243.out 0;have hfz5_1:=blk_frozen BK243.out 1)|((with_reducible refine gate_callee (f:=95) rfl ?_);refine goesL_ (some 10) rfl rfl Tryz.func95 (Z16) rfl #[.agg #[.slice A0_0 l0_0.length c0_0,.slice A0_1 l0_1.length c0_1],.string a1,.int .i64 (l0_0.length:Int)] rfl (Z37) ?_;(with_reducible refine(ligatureref05_Encode.calls k _ _ l0_0 _ _ l0_1 a1 (l0_0.length:Int) t244 _ ?side1 ?side2 ?side3 ?side4 A3.out).mono ?_);(case side1=>exact Z56);(case side2=>exact HC0_0.out);(case side3=>exact Z57);(case side4=>exact HC0_1.out);rintro e w6 ⟨v245,rfl,ho0,hb⟩;refine⟨_,rfl,?_⟩;have HO246:=Aside0.mk (Kd.R_lower ho0 (below_size (Z55)));replace BK243:=Aside0.mk (blk_below (g:=gb243) (o:=.cells #[.slice A0_0 l0_0.length c0_0,.slice A0_1 l0_1.length c0_1] 34 (0,0)) (by(with_reducible repeat(first|refine blk_drewN ?_ _|refine blk_drew ?_|refine blk_alloc ?_ _));exact BK243.out) hb);replace HB:=Aside0.mk (below_step (Z55) hb);(try clear hb);(try clear hb2);(try clear hk);(try clear hi);(try clear ho0)))
 go_ret
 exact⟨_,Z22,by(with_reducible repeat(first|apply Kd.R_alloc|apply Kd.R_drewN|apply Kd.R_drew));exact HO246.out,Z55⟩
end Go.Proofs.YtkffhgiiejbnaaaGreat.Rf
