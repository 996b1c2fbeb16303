import Derived.Test.YthcpdiknejblnaaProg
import Derived.Below
import Derived.Deep.Draws
import Derived.Deep.AppendLies
import Derived.Maps.AppendAt
import Derived.OwnWalk
import Derived.Laws.BytesArg
import Derived.Laws.MakeOwn
import Derived.Laws.OwnMore
import Derived.Deep.OwnRows
import Derived.Tactics
import Derived.Lib.ConvBytes
import Derived.Laws.Slices
import Derived.WalkKit
import Derived.KernelRfl
import Derived.RowKit3
import Derived.Deep.LoopGhost
import Derived.Deep.QuietTactic
import Derived.BigQuiet
import Derived.WideLaws
import Derived.Deep.DeepCutAuto
import Derived.Deep.CutBlock
import Derived.Deep.RegionHeld3
import Derived.Laws.Rows
import Derived.Lib.AppendStr
import Derived.ArgAppend
import Derived.Laws.IdiomCopy
import Derived.OrdersHeld
import Derived.Laws.BitsLemmas
import Derived.RowKit
import Derived.Test.YthcpdiknejblnaaQn00
set_option maxRecDepth 100000
set_option maxHeartbeats 8000000
set_option linter.unusedVariables false
set_option linter.unusedSimpArgs false
namespace Go.Proofs.Ythcpdiknejblnaa.Rf
open Go.RowKit YthcpdiknejblnaaW.PrintWords YthcpdiknejblnaaW.PrintLast YthcpdiknejblnaaW.PrintMore
attribute [local go_sem] max2_int min2_int max_two min_two max_three min_three max_four min_four
def errW:Option Int->Value
 | none=>.nilIface
 | some c=>.iface 0 (.int .i64 c)
theorem errW_none:errW none=.nilIface:=rfl
theorem errW_some (c:Int):errW (some c)=.iface 0 (.int .i64 c):=rfl
theorem info32:(Try.prog.info? 32).map (fun i=>(i.zero,i.size,i.bytes))=some (some (.agg #[(.int .i64 0),(.int .i64 0)]),2,16):=Z5
structure S32 where
 f0:Int
 f1:Int
def z32:S32:=⟨(0:Int),(0:Int)⟩
def k32:Kd S32:=Kd.iso (Kd.pair (Kd.int .i64) (Kd.int .i64)) (fun x:S32=>(x.f0,x.f1))
theorem k32_open {w:World} {x:S32} {cs:List Value} (h:k32.K w x cs):cs=[.int .i64 x.f0,.int .i64 x.f1]:=by
 obtain⟨_,_,rfl,rfl,rfl⟩:=h
 exact rfl
theorem k32_openM {w:World} {base:Nat} {ok:Nat->Prop} {x:S32} {cs:List Value} (h:k32.M w base ok x cs):cs=[.int .i64 x.f0,.int .i64 x.f1]:=by
 obtain⟨_,_,rfl,rfl,rfl⟩:=h
 exact rfl
theorem k32_mkM (w:World) (base:Nat) (ok:Nat->Prop) (x:S32) :k32.M w base ok x [.int .i64 x.f0,.int .i64 x.f1]:=⟨[.int .i64 x.f0],[.int .i64 x.f1],rfl,rfl,rfl⟩
structure S35 where
 f0:Int
 f1:Int
 f2:Int
def z35:S35:=⟨(0:Int),(0:Int),(0:Int)⟩
end Go.Proofs.Ythcpdiknejblnaa.Rf
namespace Go.Proofs.Ythcpdiknejblnaa.Rf
open Go.RowKit YthcpdiknejblnaaW.PrintWords YthcpdiknejblnaaW.PrintLast YthcpdiknejblnaaW.PrintMore
attribute [local go_sem] max2_int min2_int max_two min_two max_three min_three max_four min_four
def ligatureref02_Ints.l0:Nat->List Int->List Int->Int->Option (Bool)
 | 0,_,_,_=>none
 | k+1,x0,x1,x5=>if x5<(x0.length:Int) then (if 0≤x5 then (if x5<(x1.length:Int) then (if (rd x0 x5)=(rd x1 x5) then (ligatureref02_Ints.l0 k x0 x1 (wrap64 (x5+1))) else (some false)) else (none)) else (none)) else (some true)
def ligatureref02_Ints.f (k:Nat) (l0:List Int) (l1:List Int):Option (Bool):=if (l0.length:Int)=(l1.length:Int) then (ligatureref02_Ints.l0 k l0 l1 0) else (some false)
theorem ligatureref02_Ints.calls (k:Nat) (A0:Option Addr) (c0:Nat) (l0:List Int) (A1:Option Addr) (c1:Nat) (l1:List Int) (r:Bool) (w:World) (hr0:Kd.C (Kd.int .i64) w A0 l0.length l0) (hc0:l0.length≤c0) (hr1:Kd.C (Kd.int .i64) w A1 l1.length l1) (hc1:l1.length≤c1) (h:ligatureref02_Ints.f k l0 l1=some r) :
  Calls Try.prog 19 #[.slice A0 l0.length c0,.slice A1 l1.length c1] w fun e w'=>e=.returned (.bool r)/\Drawn0 w w':=by
 have HR0:=Aside0.mk hr0
 have HC0:=Aside0.mk hc0
 clear hr0 hc0
 have HR1:=Aside0.mk hr1
 have HC1:=Aside0.mk hc1
 clear hr1 hc1
 have H:(if (l0.length:Int)=(l1.length:Int) then (ligatureref02_Ints.l0 k l0 l1 0) else (some false))=some r:=h
 clear h
 by_cases c3:(l0.length:Int)=(l1.length:Int)
 ·rw[if_pos c3]at H
  have c3b0:((l0.length:Int)==(l1.length:Int))=true:=beq_iff_eq.mpr c3
  have c3b1:((l0.length:Int) != (l1.length:Int))=false:=bne_eq_false_iff_eq.mpr c3
  have c3b2:(l0.length==l1.length)=true:=by first|simpa using c3|(simp at c3 ⊢;omega)
  clear c3
  have H':=Aside0.mk H
  clear H
  go_enter Try.func19,Try.ntmps19
  go_wp2
  repeat(go_quiet (fail);try go_wp2)
  go_loopg [5] k (fun kq v5 w'=>∃ (x5_1:Int),v5=.int .i64 x5_1/\Aside0 (ligatureref02_Ints.l0 kq l0 l1 x5_1=some r)/\Aside0 (kq≤k)/\Drawn0 w w')
  case atStart=>exact⟨(0),(Z6),H',⟨Nat.le_refl _⟩,Z7⟩
  case round =>
   clear H'
   try clear c1
   try clear p2
   try clear c3
   try clear c3b0
   try clear c3b1
   try clear c3b2
   obtain⟨x5_1,rfl,HA,HK1,⟨m1,rfl⟩⟩:=hrel
   cases gk with
   | zero=>exact absurd HA.out (by simp[ligatureref02_Ints.l0])
   | succ k1 =>
    have H:=HA.out
    clear HA
    simp only[ligatureref02_Ints.l0]at H
    by_cases c4:x5_1<(l0.length:Int)
    ·rw[if_pos c4]at H
     have c4b0:decide (x5_1<(l0.length:Int))=true:=decide_eq_true c4
     clear c4
     by_cases c5:0≤x5_1
     ·rw[if_pos c5]at H
      have c5b0:decide (0≤x5_1)=true:=decide_eq_true c5
      clear c5
      by_cases c6:x5_1<(l1.length:Int)
      ·rw[if_pos c6]at H
       have c6b0:decide (x5_1<(l1.length:Int))=true:=decide_eq_true c6
       clear c6
       by_cases c7:(rd l0 x5_1)=(rd l1 x5_1)
       ·rw[if_pos c7]at H
        have c7b0:((rd l0 x5_1)==(rd l1 x5_1))=true:=beq_iff_eq.mpr c7
        have c7b1:((rd l0 x5_1) != (rd l1 x5_1))=false:=bne_eq_false_iff_eq.mpr c7
        clear c7
        have H':=Aside0.mk H
        clear H
        have p115:0≤(x5_1:Int):=of_decide_eq_true (Z8)
        have q115:x5_1<(l0.length:Int):=of_decide_eq_true (Z8)
        obtain⟨ad115,e115,hx115_0⟩:=Kd.at_int HR0.out x5_1 p115 q115
        cases e115
        replace p115:=eq_true p115
        replace q115:=eq_true q115
        have p116:0≤(x5_1:Int):=of_decide_eq_true (Z8)
        have q116:x5_1<(l1.length:Int):=of_decide_eq_true (Z8)
        obtain⟨ad116,e116,hx116_0⟩:=Kd.at_int HR1.out x5_1 p116 q116
        cases e116
        replace p116:=eq_true p116
        replace q116:=eq_true q116
        go_wp2
        repeat(go_quiet (fail);try go_wp2)
        go_roundg k1
        case measure=>have:=HK1.out;omega
        case rel=>exact⟨(wrap64 (x5_1+1)),(Z6),H',⟨by have:=HK1.out;omega⟩,Z7⟩
       ·rw[if_neg c7]at H
        have c7b0:((rd l0 x5_1)==(rd l1 x5_1))=false:=beq_eq_false_iff_ne.mpr c7
        have c7b1:((rd l0 x5_1) != (rd l1 x5_1))=true:=bne_iff_ne.mpr c7
        obtain rfl:=Option.some.inj H
        have p115:0≤(x5_1:Int):=of_decide_eq_true (Z8)
        have q115:x5_1<(l0.length:Int):=of_decide_eq_true (Z8)
        obtain⟨ad115,e115,hx115_0⟩:=Kd.at_int HR0.out x5_1 p115 q115
        cases e115
        replace p115:=eq_true p115
        replace q115:=eq_true q115
        have p116:0≤(x5_1:Int):=of_decide_eq_true (Z8)
        have q116:x5_1<(l1.length:Int):=of_decide_eq_true (Z8)
        obtain⟨ad116,e116,hx116_0⟩:=Kd.at_int HR1.out x5_1 p116 q116
        cases e116
        replace p116:=eq_true p116
        replace q116:=eq_true q116
        go_wp2
        repeat(go_quiet (fail);try go_wp2)
        go_ret
        exact⟨Z6,Z7⟩
      ·rw[if_neg c6]at H
       exact absurd H (by simp)
     ·rw[if_neg c5]at H
      exact absurd H (by simp)
    ·rw[if_neg c4]at H
     have c4b0:decide (x5_1<(l0.length:Int))=false:=decide_eq_false c4
     clear c4
     obtain rfl:=Option.some.inj H
     go_wp2
     repeat(go_quiet (fail);try go_wp2)
     go_ret
     exact⟨Z6,Z7⟩
 ·rw[if_neg c3]at H
  have c3b0:((l0.length:Int)==(l1.length:Int))=false:=beq_eq_false_iff_ne.mpr c3
  have c3b1:((l0.length:Int) != (l1.length:Int))=true:=bne_iff_ne.mpr c3
  have c3b2:(l0.length==l1.length)=false:=by first|simpa using c3|(simp at c3 ⊢;omega)
  obtain rfl:=Option.some.inj H
  go_enter Try.func19,Try.ntmps19
  go_wp2
  repeat(go_quiet (fail);try go_wp2)
  go_ret
  exact⟨Z6,Z7⟩
end Go.Proofs.Ythcpdiknejblnaa.Rf
namespace Go.Proofs.Ythcpdiknejblnaa.Rf
open Go.RowKit YthcpdiknejblnaaW.PrintWords YthcpdiknejblnaaW.PrintLast YthcpdiknejblnaaW.PrintMore
attribute [local go_sem] max2_int min2_int max_two min_two max_three min_three max_four min_four
def tally_Entry_27.f (l0:List (S32)) (a1:Int):Option ((List (S32))):=if 0≤(mn (l0.length:Int) (mx a1 0)) then (if (mn (l0.length:Int) (mx a1 0))≤(l0.length:Int) then (some (l0.take ((mn (l0.length:Int) (mx a1 0)):Int).toNat)) else (none)) else (none)
theorem tally_Entry_27.calls (P0_:Nat->Prop) (u9000_:Value) (l0:List (S32)) (a1:Int) (r:List (S32)) (w0 w:World) (hB:Below w0.heap.size w0 w) (ho0:Kd.R k32 32 w w0.heap.size P0_ u9000_ l0) (h:tally_Entry_27.f l0 a1=some r) :
  Calls Try.prog 27 #[u9000_,.int .i64 a1] w fun e w'=>∃ v0_:Value,e=.returned (v0_)/\Kd.R k32 32 w' w0.heap.size (fun k_=>(P0_ k_\/w.heap.size≤k_)) v0_ r/\Below w0.heap.size w0 w'/\Kept w w' (fun k_=>P0_ k_):=by
 have HO0:=Aside0.mk (show Kd.R k32 32 w w0.heap.size (fun k_=>(P0_ k_\/w.heap.size≤k_)) u9000_ l0 from Kd.R_mono ho0 (fun k_ hk=>(.inl hk)))
 have HK:=Aside0.mk (Kept.refl w (fun k_=>P0_ k_))
 have HW0:=Aside0.mk hB.size
 have HB:=Aside0.mk hB
 clear hB
 have H:(if 0≤(mn (l0.length:Int) (mx a1 0)) then (if (mn (l0.length:Int) (mx a1 0))≤(l0.length:Int) then (some (l0.take ((mn (l0.length:Int) (mx a1 0)):Int).toNat)) else (none)) else (none))=some r:=h
 clear h
 obtain⟨ji3,hji3⟩:∃ j_:Int,(mx a1 0)=j_:=⟨_,rfl⟩
 replace H:(if 0≤(mn (l0.length:Int) (ji3)) then (if (mn (l0.length:Int) (ji3))≤(l0.length:Int) then (some (l0.take ((mn (l0.length:Int) (ji3)):Int).toNat)) else (none)) else (none))=some r:=by first|(rw[hji3]at H;exact H)|(simp only[hji3]at H ⊢;exact H)
 (try(have hji3l:0≤ji3:=by(rw[←hji3];unfold mx;(repeat' split) <;> omega)))
 (try(have hji3m:0≤ji3:=by omega))
 have hji3_:(if a1<0 then 0 else a1)=ji3:=hji3
 obtain⟨ji4,hji4⟩:∃ j_:Int,(mn (l0.length:Int) (ji3))=j_:=⟨_,rfl⟩
 replace H:(if 0≤(ji4) then (if (ji4)≤(l0.length:Int) then (some (l0.take ((ji4):Int).toNat)) else (none)) else (none))=some r:=by first|(rw[hji4]at H;exact H)|(simp only[hji4]at H ⊢;exact H)
 have hji4_:(if (ji3)<(l0.length:Int) then (ji3) else (l0.length:Int))=ji4:=hji4
 by_cases c5:0≤(ji4)
 ·rw[if_pos c5]at H
  have c5b0:=eq_true c5
  have c5b1:decide (0≤(ji4))=true:=decide_eq_true c5
  clear c5
  by_cases c6:(ji4)≤(l0.length:Int)
  ·rw[if_pos c6]at H
   have c6b0:=eq_true c6
   have c6b1:decide ((ji4)≤(l0.length:Int))=true:=decide_eq_true c6
   clear c6
   obtain⟨y104,hy104⟩:∃ y_:List (S32),y_=(l0.take ((ji4):Int).toNat):=⟨_,rfl⟩
   replace H:(some y104)=some r:=by first|(rw[hy104];with_reducible exact H)|(have H2_:=(Option.bind_some _ _).symm.trans H;rw[hy104];with_reducible exact H2_)|(have H2_:=(Option.bind_some _ _).symm.trans H;with_reducible exact H2_)|with_reducible exact H|(rw[hy104];exact H)|exact H
   have Ny104:=Aside0.mk hy104
   clear hy104
   obtain rfl:=Option.some.inj H
   obtain⟨Ao7,co7,eo7⟩:=Kd.R_slice HO0.out
   subst eo7
   have q8:((ji4):Int)≤((l0.length:Int):Int):=of_decide_eq_true (Z8)
   obtain⟨i08,hi08,_,hsz8,_⟩:=info_parts info32
   have hcut8:=cut_to (P:=Try.prog) 27 32 .i64 Try.underlying27 hi08 Ao7 l0.length co7 (ji4) (of_decide_eq_true (Z8)) q8 (Kd.R_reads' HO0.out).2.1
   have hr8:=Kd.R_take (m:=((ji4):Int).toNat) HO0.out (Z0)
   have hy8:y104.length=((ji4):Int).toNat:=(by rw[Ny104.out,List.length_take];omega)
   rw[←Ny104.out]at hr8
   rw[←hy8]at hr8 hcut8
   clear hy8 hi08 hsz8 HO0
   have HO106:=Aside0.mk hr8
   clear hr8
   replace q8:=eq_true q8
   go_enter Try.func27,Try.ntmps27
   go_wp2
   go_ret
   exact⟨_,by first|rfl|(simp[errW_none,errW_some] <;> rfl)|(simp only[←hji3,←hji4];first|rfl|(simp[errW_none,errW_some] <;> rfl))|(simp[*,errW_none,errW_some] <;> rfl),by(with_reducible repeat(first|apply Kd.R_alloc|apply Kd.R_drewN|apply Kd.R_drew));exact HO106.out,by repeat(first|(with_reducible first|exact HB.out|apply below_alloc|apply pw_below_drewN|apply below_drew1)|exact HB.out),by repeat(first|(with_reducible first|exact HK.out|apply Kept.alloc|apply Kept.drewN|apply Kept.drew)|exact HK.out)⟩
  ·rw[if_neg c6]at H
   exact absurd H (by simp)
 ·rw[if_neg c5]at H
  exact absurd H (by simp)
end Go.Proofs.Ythcpdiknejblnaa.Rf
