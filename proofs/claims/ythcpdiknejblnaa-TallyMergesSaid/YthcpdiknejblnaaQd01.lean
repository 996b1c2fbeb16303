import Derived.Test.YthcpdiknejblnaaProg
import Derived.Below
import Derived.Deep.Draws
import Derived.Deep.AppendLies
import Derived.Maps.AppendAt
import Derived.OwnWalk
import Derived.Laws.BytesArg
import Derived.Laws.MakeOwn
import Derived.Laws.OwnMore
import Derived.Deep.OwnRows
import Derived.Tactics
import Derived.Lib.ConvBytes
import Derived.Laws.Slices
import Derived.WalkKit
import Derived.KernelRfl
import Derived.RowKit3
import Derived.Deep.LoopGhost
import Derived.Deep.QuietTactic
import Derived.BigQuiet
import Derived.WideLaws
import Derived.Deep.DeepCutAuto
import Derived.Deep.CutBlock
import Derived.Deep.RegionHeld3
import Derived.Laws.Rows
import Derived.Lib.AppendStr
import Derived.ArgAppend
import Derived.Laws.IdiomCopy
import Derived.OrdersHeld
import Derived.Laws.BitsLemmas
import Derived.RowKit
import Derived.Test.YthcpdiknejblnaaQd00
set_option maxRecDepth 100000
set_option maxHeartbeats 8000000
set_option linter.unusedVariables false
set_option linter.unusedSimpArgs false
namespace Go.Proofs.Ythcpdiknejblnaa.Rf
open Go.RowKit YthcpdiknejblnaaW.PrintWords YthcpdiknejblnaaW.PrintLast YthcpdiknejblnaaW.PrintMore
attribute [local go_sem] max2_int min2_int max_two min_two max_three min_three max_four min_four
def errW:Option Int->Value
 | none=>.nilIface
 | some c=>.iface 0 (.int .i64 c)
theorem errW_none:errW none=.nilIface:=rfl
theorem errW_some (c:Int):errW (some c)=.iface 0 (.int .i64 c):=rfl
theorem info32:(Try.prog.info? 32).map (fun i=>(i.zero,i.size,i.bytes))=some (some (.agg #[(.int .i64 0),(.int .i64 0)]),2,16):=Z6
def rd_L1 (xs:List (List Int)) (i:Int):(List Int):=xs.getD i.toNat ([]:List Int)
theorem at_L1 {w:World} {A:Option Addr} {n:Nat} {xs:List (List Int)} (h:Kd.C (Kd.slice 3 (Kd.int .i64)) w A n xs) (i:Int) (h0:0≤i) (h1:i<n):∃ ad A0 c0,A=some ad/\w.cell? (ad.add i.toNat)=some (.slice A0 (rd_L1 xs i).length c0)/\(rd_L1 xs i).length≤c0/\(Kd.int .i64).C w A0 (rd_L1 xs i).length (rd_L1 xs i):=by
 obtain⟨ad,c,e,_,hK,hc0⟩:=Kd.C_get h ([]:List Int) i h0 h1
 have hc:∀ j u,c[j]?=some u->w.cell? (ad.add (i.toNat * 1+j))=some u:=hc0
 obtain⟨A0,c0,rfl,l0,g0⟩:=hK
 exact⟨ad,A0,c0,e,by have hq:=hc 0 _ rfl;rwa [Nat.mul_one,Nat.add_zero]at hq,l0,g0⟩
structure S32 where
 f0:Int
 f1:Int
def z32:S32:=⟨(0:Int),(0:Int)⟩
def k32:Kd S32:=Kd.iso (Kd.pair (Kd.int .i64) (Kd.int .i64)) (fun x:S32=>(x.f0,x.f1))
theorem k32_open {w:World} {x:S32} {cs:List Value} (h:k32.K w x cs):cs=[.int .i64 x.f0,.int .i64 x.f1]:=by
 obtain⟨_,_,rfl,rfl,rfl⟩:=h
 exact rfl
theorem k32_openM {w:World} {base:Nat} {ok:Nat->Prop} {x:S32} {cs:List Value} (h:k32.M w base ok x cs):cs=[.int .i64 x.f0,.int .i64 x.f1]:=by
 obtain⟨_,_,rfl,rfl,rfl⟩:=h
 exact rfl
theorem k32_mkM (w:World) (base:Nat) (ok:Nat->Prop) (x:S32) :k32.M w base ok x [.int .i64 x.f0,.int .i64 x.f1]:=⟨[.int .i64 x.f0],[.int .i64 x.f1],rfl,rfl,rfl⟩
structure S35 where
 f0:Int
 f1:Int
 f2:Int
def z35:S35:=⟨(0:Int),(0:Int),(0:Int)⟩
end Go.Proofs.Ythcpdiknejblnaa.Rf
namespace Go.Proofs.Ythcpdiknejblnaa.Rf
open Go.RowKit YthcpdiknejblnaaW.PrintWords YthcpdiknejblnaaW.PrintLast YthcpdiknejblnaaW.PrintMore
attribute [local go_sem] max2_int min2_int max_two min_two max_three min_three max_four min_four
def tally_Entry_27.f (l0:List (S32)) (a1:Int):Option ((List (S32))):=if 0≤(mn (l0.length:Int) (mx a1 0)) then (if (mn (l0.length:Int) (mx a1 0))≤(l0.length:Int) then (some (l0.take ((mn (l0.length:Int) (mx a1 0)):Int).toNat)) else (none)) else (none)
theorem tally_Entry_27.calls (P0_:Nat->Prop) (u9000_:Value) (l0:List (S32)) (a1:Int) (r:List (S32)) (w0 w:World) (hB:Below w0.heap.size w0 w) (ho0:Kd.R k32 32 w w0.heap.size P0_ u9000_ l0) (h:tally_Entry_27.f l0 a1=some r) :
  Calls Try.prog 27 #[u9000_,.int .i64 a1] w fun e w'=>∃ v0_:Value,e=.returned (v0_)/\Kd.R k32 32 w' w0.heap.size (fun k_=>(P0_ k_\/w.heap.size≤k_)) v0_ r/\Below w0.heap.size w0 w'/\Kept w w' (fun k_=>P0_ k_):=by
 have HO0:=Aside0.mk (show Kd.R k32 32 w w0.heap.size (fun k_=>(P0_ k_\/w.heap.size≤k_)) u9000_ l0 from Kd.R_mono ho0 (fun k_ hk=>(.inl hk)))
 have HK:=Aside0.mk (Kept.refl w (fun k_=>P0_ k_))
 have HW0:=Aside0.mk hB.size
 have HB:=Aside0.mk hB
 clear hB
 have H:(if 0≤(mn (l0.length:Int) (mx a1 0)) then (if (mn (l0.length:Int) (mx a1 0))≤(l0.length:Int) then (some (l0.take ((mn (l0.length:Int) (mx a1 0)):Int).toNat)) else (none)) else (none))=some r:=h
 clear h
 obtain⟨ji3,hji3⟩:∃ j_:Int,(mx a1 0)=j_:=⟨_,rfl⟩
 replace H:(if 0≤(mn (l0.length:Int) (ji3)) then (if (mn (l0.length:Int) (ji3))≤(l0.length:Int) then (some (l0.take ((mn (l0.length:Int) (ji3)):Int).toNat)) else (none)) else (none))=some r:=by first|(rw[hji3]at H;exact H)|(simp only[hji3]at H ⊢;exact H)
 (try(have hji3l:0≤ji3:=by(rw[←hji3];unfold mx;(repeat' split) <;> omega)))
 (try(have hji3m:0≤ji3:=by omega))
 have hji3_:(if a1<0 then 0 else a1)=ji3:=hji3
 obtain⟨ji4,hji4⟩:∃ j_:Int,(mn (l0.length:Int) (ji3))=j_:=⟨_,rfl⟩
 replace H:(if 0≤(ji4) then (if (ji4)≤(l0.length:Int) then (some (l0.take ((ji4):Int).toNat)) else (none)) else (none))=some r:=by first|(rw[hji4]at H;exact H)|(simp only[hji4]at H ⊢;exact H)
 have hji4_:(if (ji3)<(l0.length:Int) then (ji3) else (l0.length:Int))=ji4:=hji4
 by_cases c5:0≤(ji4)
 ·rw[if_pos c5]at H
  have c5b0:=eq_true c5
  have c5b1:decide (0≤(ji4))=true:=decide_eq_true c5
  clear c5
  by_cases c6:(ji4)≤(l0.length:Int)
  ·rw[if_pos c6]at H
   have c6b0:=eq_true c6
   have c6b1:decide ((ji4)≤(l0.length:Int))=true:=decide_eq_true c6
   clear c6
   obtain⟨y104,hy104⟩:∃ y_:List (S32),y_=(l0.take ((ji4):Int).toNat):=⟨_,rfl⟩
   replace H:(some y104)=some r:=by first|(rw[hy104];with_reducible exact H)|(have H2_:=(Option.bind_some _ _).symm.trans H;rw[hy104];with_reducible exact H2_)|(have H2_:=(Option.bind_some _ _).symm.trans H;with_reducible exact H2_)|with_reducible exact H|(rw[hy104];exact H)|exact H
   have Ny104:=Aside0.mk hy104
   clear hy104
   obtain rfl:=Option.some.inj H
   obtain⟨Ao7,co7,eo7⟩:=Kd.R_slice HO0.out
   subst eo7
   have q8:((ji4):Int)≤((l0.length:Int):Int):=of_decide_eq_true (Z7)
   obtain⟨i08,hi08,_,hsz8,_⟩:=info_parts info32
   have hcut8:=cut_to (P:=Try.prog) 27 32 .i64 Try.underlying27 hi08 Ao7 l0.length co7 (ji4) (of_decide_eq_true (Z7)) q8 (Kd.R_reads' HO0.out).2.1
   have hr8:=Kd.R_take (m:=((ji4):Int).toNat) HO0.out (Z0)
   have hy8:y104.length=((ji4):Int).toNat:=(by rw[Ny104.out,List.length_take];omega)
   rw[←Ny104.out]at hr8
   rw[←hy8]at hr8 hcut8
   clear hy8 hi08 hsz8 HO0
   have HO106:=Aside0.mk hr8
   clear hr8
   replace q8:=eq_true q8
   go_enter Try.func27,Try.ntmps27
   go_wp2
   go_ret
   exact⟨_,by first|rfl|(simp[errW_none,errW_some] <;> rfl)|(simp only[←hji3,←hji4];first|rfl|(simp[errW_none,errW_some] <;> rfl))|(simp[*,errW_none,errW_some] <;> rfl),by(with_reducible repeat(first|apply Kd.R_alloc|apply Kd.R_drewN|apply Kd.R_drew));exact HO106.out,by repeat(first|(with_reducible first|exact HB.out|apply below_alloc|apply pw_below_drewN|apply below_drew1)|exact HB.out),by repeat(first|(with_reducible first|exact HK.out|apply Kept.alloc|apply Kept.drewN|apply Kept.drew)|exact HK.out)⟩
  ·rw[if_neg c6]at H
   exact absurd H (by simp)
 ·rw[if_neg c5]at H
  exact absurd H (by simp)
end Go.Proofs.Ythcpdiknejblnaa.Rf
namespace Go.Proofs.Ythcpdiknejblnaa.Rf
open Go.RowKit YthcpdiknejblnaaW.PrintWords YthcpdiknejblnaaW.PrintLast YthcpdiknejblnaaW.PrintMore
attribute [local go_sem] max2_int min2_int max_two min_two max_three min_three max_four min_four
def ligaturelaw29_great.l0:Nat->List (List Int)->Int->Option (Bool)
 | 0,_,_=>none
 | k+1,x0,x3=>if x3<(x0.length:Int) then (if 0≤x3 then (if ((rd_L1 x0 x3).length:Int)>30 then (some true) else (ligaturelaw29_great.l0 k x0 (wrap64 (x3+1)))) else (none)) else (some (decide ((x0.length:Int)>12)))
def ligaturelaw29_great.f (k:Nat) (l0:List (List Int)):Option (Bool):=ligaturelaw29_great.l0 k l0 0
theorem ligaturelaw29_great.calls (k:Nat) (A0:Option Addr) (c0:Nat) (l0:List (List Int)) (r:Bool) (w:World) (hr0:Kd.C (Kd.slice 3 (Kd.int .i64)) w A0 l0.length l0) (hc0:l0.length≤c0) (h:ligaturelaw29_great.f k l0=some r) :
  Calls Try.prog 7 #[.slice A0 l0.length c0] w fun e w'=>e=.returned (.bool r)/\Drawn0 w w':=by
 have HR0:=Aside0.mk hr0
 have HC0:=Aside0.mk hc0
 clear hr0 hc0
 have H:(ligaturelaw29_great.l0 k l0 0)=some r:=h
 clear h
 have H':=Aside0.mk H
 clear H
 go_enter Try.func7,Try.ntmps7
 go_wp2
 go_loopg [3] k (fun kq v3 w'=>∃ (x3_1:Int),v3=.int .i64 x3_1/\Aside0 (ligaturelaw29_great.l0 kq l0 x3_1=some r)/\Aside0 (kq≤k)/\Drawn0 w w')
 case atStart=>exact⟨(0),(Z8),H',⟨Nat.le_refl _⟩,Z9⟩
 case round =>
  clear H'
  obtain⟨x3_1,rfl,HA,HK1,⟨m1,rfl⟩⟩:=hrel
  cases gk with
  | zero=>exact absurd HA.out (by simp[ligaturelaw29_great.l0])
  | succ k1 =>
   have H:=HA.out
   clear HA
   simp only[ligaturelaw29_great.l0]at H
   by_cases c2:x3_1<(l0.length:Int)
   ·rw[if_pos c2]at H
    have c2b0:decide (x3_1<(l0.length:Int))=true:=decide_eq_true c2
    clear c2
    by_cases c3:0≤x3_1
    ·rw[if_pos c3]at H
     have c3b0:decide (0≤x3_1)=true:=decide_eq_true c3
     clear c3
     by_cases c4:((rd_L1 l0 x3_1).length:Int)>30
     ·rw[if_pos c4]at H
      have c4b0:decide (30<((rd_L1 l0 x3_1).length:Int))=true:=decide_eq_true c4
      have c4b1:decide (30<(rd_L1 l0 x3_1).length)=true:=decide_eq_true (Z0)
      clear c4
      obtain rfl:=Option.some.inj H
      have p101:0≤(x3_1:Int):=of_decide_eq_true (Z7)
      have q101:x3_1<(l0.length:Int):=of_decide_eq_true (Z7)
      obtain⟨ad101,A101_0,c101_0,e101,hx101_0,hl101_0,hi101_0⟩:=at_L1 HR0.out x3_1 p101 q101
      cases e101
      have HR101_0:=Aside0.mk hi101_0
      have HC101_0:=Aside0.mk hl101_0
      clear hi101_0 hl101_0
      replace p101:=eq_true p101
      replace q101:=eq_true q101
      go_wp2
      go_ret
      exact⟨Z8,Z9⟩
     ·rw[if_neg c4]at H
      have c4b0:decide (30<((rd_L1 l0 x3_1).length:Int))=false:=decide_eq_false c4
      have c4b1:decide (30<(rd_L1 l0 x3_1).length)=false:=decide_eq_false (Z0)
      clear c4
      have H':=Aside0.mk H
      clear H
      have p101:0≤(x3_1:Int):=of_decide_eq_true (Z7)
      have q101:x3_1<(l0.length:Int):=of_decide_eq_true (Z7)
      obtain⟨ad101,A101_0,c101_0,e101,hx101_0,hl101_0,hi101_0⟩:=at_L1 HR0.out x3_1 p101 q101
      cases e101
      have HR101_0:=Aside0.mk hi101_0
      have HC101_0:=Aside0.mk hl101_0
      clear hi101_0 hl101_0
      replace p101:=eq_true p101
      replace q101:=eq_true q101
      go_wp2
      go_roundg k1
      case measure=>have:=HK1.out;omega
      case rel=>exact⟨(wrap64 (x3_1+1)),(Z8),H',⟨by have:=HK1.out;omega⟩,Z9⟩
    ·rw[if_neg c3]at H
     exact absurd H (by simp)
   ·rw[if_neg c2]at H
    have c2b0:decide (x3_1<(l0.length:Int))=false:=decide_eq_false c2
    clear c2
    obtain rfl:=Option.some.inj H
    go_wp2
    go_ret
    exact⟨Z8,Z9⟩
end Go.Proofs.Ythcpdiknejblnaa.Rf
