import Derived.Test.YthcpdiknejblnaaProg
import Derived.Below
import Derived.Deep.Draws
import Derived.Deep.AppendLies
import Derived.Maps.AppendAt
import Derived.OwnWalk
import Derived.Laws.BytesArg
import Derived.Laws.MakeOwn
import Derived.Laws.OwnMore
import Derived.Deep.OwnRows
import Derived.Tactics
import Derived.Lib.ConvBytes
import Derived.Laws.Slices
import Derived.WalkKit
import Derived.KernelRfl
import Derived.RowKit3
import Derived.Deep.LoopGhost
import Derived.Deep.QuietTactic
import Derived.BigQuiet
import Derived.WideLaws
import Derived.Deep.DeepCutAuto
import Derived.Deep.CutBlock
import Derived.Deep.RegionHeld3
import Derived.Laws.Rows
import Derived.Lib.AppendStr
import Derived.ArgAppend
import Derived.Laws.IdiomCopy
import Derived.OrdersHeld
import Derived.Laws.BitsLemmas
import Derived.RowKit
import Derived.Test.YthcpdiknejblnaaQe00
set_option maxRecDepth 100000
set_option maxHeartbeats 8000000
set_option linter.unusedVariables false
set_option linter.unusedSimpArgs false
namespace Go.Proofs.Ythcpdiknejblnaa.Rf
open Go.RowKit YthcpdiknejblnaaW.PrintWords YthcpdiknejblnaaW.PrintLast YthcpdiknejblnaaW.PrintMore
attribute [local go_sem] max2_int min2_int max_two min_two max_three min_three max_four min_four
def errW:Option Int->Value
 | none=>.nilIface
 | some c=>.iface 0 (.int .i64 c)
theorem errW_none:errW none=.nilIface:=rfl
theorem errW_some (c:Int):errW (some c)=.iface 0 (.int .i64 c):=rfl
theorem info32:(Try.prog.info? 32).map (fun i=>(i.zero,i.size,i.bytes))=some (some (.agg #[(.int .i64 0),(.int .i64 0)]),2,16):=Z5
theorem info35:(Try.prog.info? 35).map (fun i=>(i.zero,i.size,i.bytes))=some (some (.agg #[(.int .i64 0),(.int .i64 0),(.int .i64 0)]),3,24):=Z5
def rd_L1 (xs:List (List Int)) (i:Int):(List Int):=xs.getD i.toNat ([]:List Int)
theorem at_L1 {w:World} {A:Option Addr} {n:Nat} {xs:List (List Int)} (h:Kd.C (Kd.slice 3 (Kd.int .i64)) w A n xs) (i:Int) (h0:0≤i) (h1:i<n):∃ ad A0 c0,A=some ad/\w.cell? (ad.add i.toNat)=some (.slice A0 (rd_L1 xs i).length c0)/\(rd_L1 xs i).length≤c0/\(Kd.int .i64).C w A0 (rd_L1 xs i).length (rd_L1 xs i):=by
 obtain⟨ad,c,e,_,hK,hc0⟩:=Kd.C_get h ([]:List Int) i h0 h1
 have hc:∀ j u,c[j]?=some u->w.cell? (ad.add (i.toNat * 1+j))=some u:=hc0
 obtain⟨A0,c0,rfl,l0,g0⟩:=hK
 exact⟨ad,A0,c0,e,by have hq:=hc 0 _ rfl;rwa [Nat.mul_one,Nat.add_zero]at hq,l0,g0⟩
structure S32 where
 f0:Int
 f1:Int
def z32:S32:=⟨(0:Int),(0:Int)⟩
def k32:Kd S32:=Kd.iso (Kd.pair (Kd.int .i64) (Kd.int .i64)) (fun x:S32=>(x.f0,x.f1))
theorem k32_open {w:World} {x:S32} {cs:List Value} (h:k32.K w x cs):cs=[.int .i64 x.f0,.int .i64 x.f1]:=by
 obtain⟨_,_,rfl,rfl,rfl⟩:=h
 exact rfl
theorem k32_openM {w:World} {base:Nat} {ok:Nat->Prop} {x:S32} {cs:List Value} (h:k32.M w base ok x cs):cs=[.int .i64 x.f0,.int .i64 x.f1]:=by
 obtain⟨_,_,rfl,rfl,rfl⟩:=h
 exact rfl
theorem k32_mkM (w:World) (base:Nat) (ok:Nat->Prop) (x:S32) :k32.M w base ok x [.int .i64 x.f0,.int .i64 x.f1]:=⟨[.int .i64 x.f0],[.int .i64 x.f1],rfl,rfl,rfl⟩
def rd_T32 (xs:List S32) (i:Int):S32:=xs.getD i.toNat z32
theorem at_T32 {w:World} {A:Option Addr} {n:Nat} {xs:List S32} (h:Kd.C k32 w A n xs) (i:Int) (h0:0≤i) (h1:i<n):∃ ad ,A=some ad/\w.cell? (ad.add (i.toNat * 2))=some (.int .i64 (rd_T32 xs i).f0)/\w.cell? ⟨(ad.add (i.toNat * 2)).block,(ad.add (i.toNat * 2)).off+1,none⟩=some (.int .i64 (rd_T32 xs i).f1):=by
 obtain⟨ad,c,e,_,hK,hc0⟩:=Kd.C_get h z32 i h0 h1
 have hc:∀ j u,c[j]?=some u->w.cell? (ad.add (i.toNat * 2+j))=some u:=hc0
 obtain rfl:=k32_open hK
 exact⟨ad,e,hc 0 _ rfl,by rw[←add_field _ _ 1 (Z0)];exact hc 1 _ rfl⟩
structure S35 where
 f0:Int
 f1:Int
 f2:Int
def z35:S35:=⟨(0:Int),(0:Int),(0:Int)⟩
def k35:Kd S35:=Kd.iso (Kd.pair (Kd.int .i64) (Kd.pair (Kd.int .i64) (Kd.int .i64))) (fun x:S35=>(x.f0,x.f1,x.f2))
theorem k35_open {w:World} {x:S35} {cs:List Value} (h:k35.K w x cs):cs=[.int .i64 x.f0,.int .i64 x.f1,.int .i64 x.f2]:=by
 obtain⟨_,_,rfl,rfl,⟨_,_,rfl,rfl,rfl⟩⟩:=h
 exact rfl
theorem k35_openM {w:World} {base:Nat} {ok:Nat->Prop} {x:S35} {cs:List Value} (h:k35.M w base ok x cs):cs=[.int .i64 x.f0,.int .i64 x.f1,.int .i64 x.f2]:=by
 obtain⟨_,_,rfl,rfl,⟨_,_,rfl,rfl,rfl⟩⟩:=h
 exact rfl
theorem k35_mkM (w:World) (base:Nat) (ok:Nat->Prop) (x:S35) :k35.M w base ok x [.int .i64 x.f0,.int .i64 x.f1,.int .i64 x.f2]:=⟨[.int .i64 x.f0],[.int .i64 x.f1,.int .i64 x.f2],rfl,rfl,⟨[.int .i64 x.f1],[.int .i64 x.f2],rfl,rfl,rfl⟩⟩
def rd_T35 (xs:List S35) (i:Int):S35:=xs.getD i.toNat z35
theorem at_T35 {w:World} {A:Option Addr} {n:Nat} {xs:List S35} (h:Kd.C k35 w A n xs) (i:Int) (h0:0≤i) (h1:i<n):∃ ad ,A=some ad/\w.cell? (ad.add (i.toNat * 3))=some (.int .i64 (rd_T35 xs i).f0)/\w.cell? ⟨(ad.add (i.toNat * 3)).block,(ad.add (i.toNat * 3)).off+1,none⟩=some (.int .i64 (rd_T35 xs i).f1)/\w.cell? ⟨(ad.add (i.toNat * 3)).block,(ad.add (i.toNat * 3)).off+2,none⟩=some (.int .i64 (rd_T35 xs i).f2):=by
 obtain⟨ad,c,e,_,hK,hc0⟩:=Kd.C_get h z35 i h0 h1
 have hc:∀ j u,c[j]?=some u->w.cell? (ad.add (i.toNat * 3+j))=some u:=hc0
 obtain rfl:=k35_open hK
 exact⟨ad,e,hc 0 _ rfl,by rw[←add_field _ _ 1 (Z0)];exact hc 1 _ rfl,by rw[←add_field _ _ 2 (Z0)];exact hc 2 _ rfl⟩
end Go.Proofs.Ythcpdiknejblnaa.Rf
namespace Go.Proofs.Ythcpdiknejblnaa.Rf
open Go.RowKit YthcpdiknejblnaaW.PrintWords YthcpdiknejblnaaW.PrintLast YthcpdiknejblnaaW.PrintMore
attribute [local go_sem] max2_int min2_int max_two min_two max_three min_three max_four min_four
def tally_Entry_27.f (l0:List (S32)) (a1:Int):Option ((List (S32))):=if 0≤(mn (l0.length:Int) (mx a1 0)) then (if (mn (l0.length:Int) (mx a1 0))≤(l0.length:Int) then (some (l0.take ((mn (l0.length:Int) (mx a1 0)):Int).toNat)) else (none)) else (none)
theorem tally_Entry_27.calls (P0_:Nat->Prop) (u9000_:Value) (l0:List (S32)) (a1:Int) (r:List (S32)) (w0 w:World) (hB:Below w0.heap.size w0 w) (ho0:Kd.R k32 32 w w0.heap.size P0_ u9000_ l0) (h:tally_Entry_27.f l0 a1=some r) :
  Calls Try.prog 27 #[u9000_,.int .i64 a1] w fun e w'=>∃ v0_:Value,e=.returned (v0_)/\Kd.R k32 32 w' w0.heap.size (fun k_=>(P0_ k_\/w.heap.size≤k_)) v0_ r/\Below w0.heap.size w0 w'/\Kept w w' (fun k_=>P0_ k_):=by
 have HO0:=Aside0.mk (show Kd.R k32 32 w w0.heap.size (fun k_=>(P0_ k_\/w.heap.size≤k_)) u9000_ l0 from Kd.R_mono ho0 (fun k_ hk=>(.inl hk)))
 have HK:=Aside0.mk (Kept.refl w (fun k_=>P0_ k_))
 have HW0:=Aside0.mk hB.size
 have HB:=Aside0.mk hB
 clear hB
 have H:(if 0≤(mn (l0.length:Int) (mx a1 0)) then (if (mn (l0.length:Int) (mx a1 0))≤(l0.length:Int) then (some (l0.take ((mn (l0.length:Int) (mx a1 0)):Int).toNat)) else (none)) else (none))=some r:=h
 clear h
 obtain⟨ji3,hji3⟩:∃ j_:Int,(mx a1 0)=j_:=⟨_,rfl⟩
 replace H:(if 0≤(mn (l0.length:Int) (ji3)) then (if (mn (l0.length:Int) (ji3))≤(l0.length:Int) then (some (l0.take ((mn (l0.length:Int) (ji3)):Int).toNat)) else (none)) else (none))=some r:=Z6
 (try(have hji3l:0≤ji3:=by(rw[←hji3];unfold mx;(repeat' split) <;> omega)))
 (try(have hji3m:0≤ji3:=by omega))
 have hji3_:(if a1<0 then 0 else a1)=ji3:=hji3
 obtain⟨ji4,hji4⟩:∃ j_:Int,(mn (l0.length:Int) (ji3))=j_:=⟨_,rfl⟩
 replace H:(if 0≤(ji4) then (if (ji4)≤(l0.length:Int) then (some (l0.take ((ji4):Int).toNat)) else (none)) else (none))=some r:=Z7
 have hji4_:(if (ji3)<(l0.length:Int) then (ji3) else (l0.length:Int))=ji4:=hji4
 by_cases c5:0≤(ji4)
 ·rw[if_pos c5]at H
  have c5b0:=eq_true c5
  have c5b1:decide (0≤(ji4))=true:=decide_eq_true c5
  clear c5
  by_cases c6:(ji4)≤(l0.length:Int)
  ·rw[if_pos c6]at H
   have c6b0:=eq_true c6
   have c6b1:decide ((ji4)≤(l0.length:Int))=true:=decide_eq_true c6
   clear c6
   obtain⟨y104,hy104⟩:∃ y_:List (S32),y_=(l0.take ((ji4):Int).toNat):=⟨_,rfl⟩
   replace H:(some y104)=some r:=by first|(rw[hy104];with_reducible exact H)|(have H2_:=(Option.bind_some _ _).symm.trans H;rw[hy104];with_reducible exact H2_)|(have H2_:=(Option.bind_some _ _).symm.trans H;with_reducible exact H2_)|with_reducible exact H|(rw[hy104];exact H)|exact H
   have Ny104:=Aside0.mk hy104
   clear hy104
   obtain rfl:=Option.some.inj H
   obtain⟨Ao7,co7,eo7⟩:=Kd.R_slice HO0.out
   subst eo7
   have q8:((ji4):Int)≤((l0.length:Int):Int):=of_decide_eq_true (Z8)
   obtain⟨i08,hi08,_,hsz8,_⟩:=info_parts info32
   have hcut8:=cut_to (P:=Try.prog) 27 32 .i64 Try.underlying27 hi08 Ao7 l0.length co7 (ji4) (of_decide_eq_true (Z8)) q8 (Kd.R_reads' HO0.out).2.1
   have hr8:=Kd.R_take (m:=((ji4):Int).toNat) HO0.out (Z0)
   have hy8:y104.length=((ji4):Int).toNat:=(by rw[Ny104.out,List.length_take];omega)
   rw[←Ny104.out]at hr8
   rw[←hy8]at hr8 hcut8
   clear hy8 hi08 hsz8 HO0
   have HO106:=Aside0.mk hr8
   clear hr8
   replace q8:=eq_true q8
   go_enter Try.func27,Try.ntmps27
   go_wp2
   go_ret
   exact⟨_,Z9,by(with_reducible repeat(first|apply Kd.R_alloc|apply Kd.R_drewN|apply Kd.R_drew));exact HO106.out,Z10,Z11⟩
  ·rw[if_neg c6]at H
   exact absurd H (by simp)
 ·rw[if_neg c5]at H
  exact absurd H (by simp)
end Go.Proofs.Ythcpdiknejblnaa.Rf
namespace Go.Proofs.Ythcpdiknejblnaa.Rf
open Go.RowKit YthcpdiknejblnaaW.PrintWords YthcpdiknejblnaaW.PrintLast YthcpdiknejblnaaW.PrintMore
attribute [local go_sem] max2_int min2_int max_two min_two max_three min_three max_four min_four
def tally_Pair_30.f (l0:List (S35)) (a1:Int):Option ((List (S35))):=if 0≤(mn (l0.length:Int) (mx a1 0)) then (if (mn (l0.length:Int) (mx a1 0))≤(l0.length:Int) then (some (l0.take ((mn (l0.length:Int) (mx a1 0)):Int).toNat)) else (none)) else (none)
theorem tally_Pair_30.calls (P0_:Nat->Prop) (u9000_:Value) (l0:List (S35)) (a1:Int) (r:List (S35)) (w0 w:World) (hB:Below w0.heap.size w0 w) (ho0:Kd.R k35 35 w w0.heap.size P0_ u9000_ l0) (h:tally_Pair_30.f l0 a1=some r) :
  Calls Try.prog 30 #[u9000_,.int .i64 a1] w fun e w'=>∃ v0_:Value,e=.returned (v0_)/\Kd.R k35 35 w' w0.heap.size (fun k_=>(P0_ k_\/w.heap.size≤k_)) v0_ r/\Below w0.heap.size w0 w'/\Kept w w' (fun k_=>P0_ k_):=by
 have HO0:=Aside0.mk (show Kd.R k35 35 w w0.heap.size (fun k_=>(P0_ k_\/w.heap.size≤k_)) u9000_ l0 from Kd.R_mono ho0 (fun k_ hk=>(.inl hk)))
 have HK:=Aside0.mk (Kept.refl w (fun k_=>P0_ k_))
 have HW0:=Aside0.mk hB.size
 have HB:=Aside0.mk hB
 clear hB
 have H:(if 0≤(mn (l0.length:Int) (mx a1 0)) then (if (mn (l0.length:Int) (mx a1 0))≤(l0.length:Int) then (some (l0.take ((mn (l0.length:Int) (mx a1 0)):Int).toNat)) else (none)) else (none))=some r:=h
 clear h
 obtain⟨ji3,hji3⟩:∃ j_:Int,(mx a1 0)=j_:=⟨_,rfl⟩
 replace H:(if 0≤(mn (l0.length:Int) (ji3)) then (if (mn (l0.length:Int) (ji3))≤(l0.length:Int) then (some (l0.take ((mn (l0.length:Int) (ji3)):Int).toNat)) else (none)) else (none))=some r:=Z6
 (try(have hji3l:0≤ji3:=by(rw[←hji3];unfold mx;(repeat' split) <;> omega)))
 (try(have hji3m:0≤ji3:=by omega))
 have hji3_:(if a1<0 then 0 else a1)=ji3:=hji3
 obtain⟨ji4,hji4⟩:∃ j_:Int,(mn (l0.length:Int) (ji3))=j_:=⟨_,rfl⟩
 replace H:(if 0≤(ji4) then (if (ji4)≤(l0.length:Int) then (some (l0.take ((ji4):Int).toNat)) else (none)) else (none))=some r:=Z7
 have hji4_:(if (ji3)<(l0.length:Int) then (ji3) else (l0.length:Int))=ji4:=hji4
 by_cases c5:0≤(ji4)
 ·rw[if_pos c5]at H
  have c5b0:=eq_true c5
  have c5b1:decide (0≤(ji4))=true:=decide_eq_true c5
  clear c5
  by_cases c6:(ji4)≤(l0.length:Int)
  ·rw[if_pos c6]at H
   have c6b0:=eq_true c6
   have c6b1:decide ((ji4)≤(l0.length:Int))=true:=decide_eq_true c6
   clear c6
   obtain⟨y118,hy118⟩:∃ y_:List (S35),y_=(l0.take ((ji4):Int).toNat):=⟨_,rfl⟩
   replace H:(some y118)=some r:=by first|(rw[hy118];with_reducible exact H)|(have H2_:=(Option.bind_some _ _).symm.trans H;rw[hy118];with_reducible exact H2_)|(have H2_:=(Option.bind_some _ _).symm.trans H;with_reducible exact H2_)|with_reducible exact H|(rw[hy118];exact H)|exact H
   have Ny118:=Aside0.mk hy118
   clear hy118
   obtain rfl:=Option.some.inj H
   obtain⟨Ao7,co7,eo7⟩:=Kd.R_slice HO0.out
   subst eo7
   have q8:((ji4):Int)≤((l0.length:Int):Int):=of_decide_eq_true (Z8)
   obtain⟨i08,hi08,_,hsz8,_⟩:=info_parts info35
   have hcut8:=cut_to (P:=Try.prog) 29 35 .i64 Try.underlying29 hi08 Ao7 l0.length co7 (ji4) (of_decide_eq_true (Z8)) q8 (Kd.R_reads' HO0.out).2.1
   have hr8:=Kd.R_take (m:=((ji4):Int).toNat) HO0.out (Z0)
   have hy8:y118.length=((ji4):Int).toNat:=(by rw[Ny118.out,List.length_take];omega)
   rw[←Ny118.out]at hr8
   rw[←hy8]at hr8 hcut8
   clear hy8 hi08 hsz8 HO0
   have HO120:=Aside0.mk hr8
   clear hr8
   replace q8:=eq_true q8
   go_enter Try.func30,Try.ntmps30
   go_wp2
   go_ret
   exact⟨_,Z9,by(with_reducible repeat(first|apply Kd.R_alloc|apply Kd.R_drewN|apply Kd.R_drew));exact HO120.out,Z10,Z11⟩
  ·rw[if_neg c6]at H
   exact absurd H (by simp)
 ·rw[if_neg c5]at H
  exact absurd H (by simp)
end Go.Proofs.Ythcpdiknejblnaa.Rf
namespace Go.Proofs.Ythcpdiknejblnaa.Rf
open Go.RowKit YthcpdiknejblnaaW.PrintWords YthcpdiknejblnaaW.PrintLast YthcpdiknejblnaaW.PrintMore
attribute [local go_sem] max2_int min2_int max_two min_two max_three min_three max_four min_four
def ligaturelaw29_great.l0:Nat->List (List Int)->Int->Option (Bool)
 | 0,_,_=>none
 | k+1,x0,x3=>if x3<(x0.length:Int) then (if 0≤x3 then (if ((rd_L1 x0 x3).length:Int)>30 then (some true) else (ligaturelaw29_great.l0 k x0 (wrap64 (x3+1)))) else (none)) else (some (decide ((x0.length:Int)>12)))
def ligaturelaw29_great.f (k:Nat) (l0:List (List Int)):Option (Bool):=ligaturelaw29_great.l0 k l0 0
theorem ligaturelaw29_great.calls (k:Nat) (A0:Option Addr) (c0:Nat) (l0:List (List Int)) (r:Bool) (w:World) (hr0:Kd.C (Kd.slice 3 (Kd.int .i64)) w A0 l0.length l0) (hc0:l0.length≤c0) (h:ligaturelaw29_great.f k l0=some r) :
  Calls Try.prog 7 #[.slice A0 l0.length c0] w fun e w'=>e=.returned (.bool r)/\Drawn0 w w':=by
 have HR0:=Aside0.mk hr0
 have HC0:=Aside0.mk hc0
 clear hr0 hc0
 have H:(ligaturelaw29_great.l0 k l0 0)=some r:=h
 clear h
 have H':=Aside0.mk H
 clear H
 go_enter Try.func7,Try.ntmps7
 go_wp2
 go_loopg [3] k (fun kq v3 w'=>∃ (x3_1:Int),v3=.int .i64 x3_1/\Aside0 (ligaturelaw29_great.l0 kq l0 x3_1=some r)/\Aside0 (kq≤k)/\Drawn0 w w')
 case atStart=>exact⟨(0),(Z12),H',⟨Nat.le_refl _⟩,Z13⟩
 case round =>
  clear H'
  obtain⟨x3_1,rfl,HA,HK1,⟨m1,rfl⟩⟩:=hrel
  cases gk with
  | zero=>exact absurd HA.out (by simp[ligaturelaw29_great.l0])
  | succ k1 =>
   have H:=HA.out
   clear HA
   simp only[ligaturelaw29_great.l0]at H
   by_cases c2:x3_1<(l0.length:Int)
   ·rw[if_pos c2]at H
    have c2b0:decide (x3_1<(l0.length:Int))=true:=decide_eq_true c2
    clear c2
    by_cases c3:0≤x3_1
    ·rw[if_pos c3]at H
     have c3b0:decide (0≤x3_1)=true:=decide_eq_true c3
     clear c3
     by_cases c4:((rd_L1 l0 x3_1).length:Int)>30
     ·rw[if_pos c4]at H
      have c4b0:decide (30<((rd_L1 l0 x3_1).length:Int))=true:=decide_eq_true c4
      have c4b1:decide (30<(rd_L1 l0 x3_1).length)=true:=decide_eq_true (Z0)
      clear c4
      obtain rfl:=Option.some.inj H
      have p101:0≤(x3_1:Int):=of_decide_eq_true (Z8)
      have q101:x3_1<(l0.length:Int):=of_decide_eq_true (Z8)
      obtain⟨ad101,A101_0,c101_0,e101,hx101_0,hl101_0,hi101_0⟩:=at_L1 HR0.out x3_1 p101 q101
      cases e101
      have HR101_0:=Aside0.mk hi101_0
      have HC101_0:=Aside0.mk hl101_0
      clear hi101_0 hl101_0
      replace p101:=eq_true p101
      replace q101:=eq_true q101
      go_wp2
      go_ret
      exact⟨Z12,Z13⟩
     ·rw[if_neg c4]at H
      have c4b0:decide (30<((rd_L1 l0 x3_1).length:Int))=false:=decide_eq_false c4
      have c4b1:decide (30<(rd_L1 l0 x3_1).length)=false:=decide_eq_false (Z0)
      clear c4
      have H':=Aside0.mk H
      clear H
      have p101:0≤(x3_1:Int):=of_decide_eq_true (Z8)
      have q101:x3_1<(l0.length:Int):=of_decide_eq_true (Z8)
      obtain⟨ad101,A101_0,c101_0,e101,hx101_0,hl101_0,hi101_0⟩:=at_L1 HR0.out x3_1 p101 q101
      cases e101
      have HR101_0:=Aside0.mk hi101_0
      have HC101_0:=Aside0.mk hl101_0
      clear hi101_0 hl101_0
      replace p101:=eq_true p101
      replace q101:=eq_true q101
      go_wp2
      go_roundg k1
      case measure=>have:=HK1.out;omega
      case rel=>exact⟨(wrap64 (x3_1+1)),(Z12),H',⟨by have:=HK1.out;omega⟩,Z13⟩
    ·rw[if_neg c3]at H
     exact absurd H (by simp)
   ·rw[if_neg c2]at H
    have c2b0:decide (x3_1<(l0.length:Int))=false:=decide_eq_false c2
    clear c2
    obtain rfl:=Option.some.inj H
    go_wp2
    go_ret
    exact⟨Z12,Z13⟩
end Go.Proofs.Ythcpdiknejblnaa.Rf
namespace Go.Proofs.Ythcpdiknejblnaa.Rf
open Go.RowKit YthcpdiknejblnaaW.PrintWords YthcpdiknejblnaaW.PrintLast YthcpdiknejblnaaW.PrintMore
attribute [local go_sem] max2_int min2_int max_two min_two max_three min_three max_four min_four
mutual
def ligaturelaw29_count.l0:Nat->List (List Int)->Int->Int->Int->Option (Int)
 | 0,_,_,_,_=>none
 | k+1,x0,x1,x5,x6=>if x6<(x0.length:Int) then (ligaturelaw29_count.l1 k x0 x1 x5 x6 0) else (some x5)
def ligaturelaw29_count.l1:Nat->List (List Int)->Int->Int->Int->Int->Option (Int)
 | 0,_,_,_,_,_=>none
 | k+1,x0,x1,x5,x6,x7=>if 0≤x6 then (if x6<(x0.length:Int) then (if x7<((rd_L1 x0 x6).length:Int) then (if 0≤x7 then (if (rd (rd_L1 x0 x6) x7)=x1 then (ligaturelaw29_count.l1 k x0 x1 (wrap64 (x5+1)) x6 (wrap64 (x7+1))) else (ligaturelaw29_count.l1 k x0 x1 x5 x6 (wrap64 (x7+1)))) else (none)) else (ligaturelaw29_count.l0 k x0 x1 x5 (wrap64 (x6+1)))) else (none)) else (none)
end
def ligaturelaw29_count.f (k:Nat) (l0:List (List Int)) (a1:Int):Option (Int):=ligaturelaw29_count.l0 k l0 a1 0 0
theorem ligaturelaw29_count.calls (k:Nat) (A0:Option Addr) (c0:Nat) (l0:List (List Int)) (a1:Int) (r:Int) (w:World) (hr0:Kd.C (Kd.slice 3 (Kd.int .i64)) w A0 l0.length l0) (hc0:l0.length≤c0) (h:ligaturelaw29_count.f k l0 a1=some r) :
  Calls Try.prog 12 #[.slice A0 l0.length c0,.int .i64 a1] w fun e w'=>e=.returned (.int .i64 r)/\Drawn0 w w':=by
 have HR0:=Aside0.mk hr0
 have HC0:=Aside0.mk hc0
 clear hr0 hc0
 have H:(ligaturelaw29_count.l0 k l0 a1 0 0)=some r:=h
 clear h
 have H':=Aside0.mk H
 clear H
 go_enter Try.func12,Try.ntmps12
 go_wp2
 go_loopg [5,6] k (fun kq v5 v6 w'=>∃ (x5_1:Int) (x6_1:Int),v5=.int .i64 x5_1/\v6=.int .i64 x6_1/\Aside0 (ligaturelaw29_count.l0 kq l0 a1 x5_1 x6_1=some r)/\Aside0 (kq≤k)/\Drawn0 w w')
 case atStart=>exact⟨(0),(0),(Z12),(Z12),H',⟨Nat.le_refl _⟩,Z13⟩
 case round =>
  clear H'
  try clear c1
  try clear p2
  obtain⟨x5_1,x6_1,rfl,rfl,HA,HK1,⟨m1,rfl⟩⟩:=hrel
  cases gk with
  | zero=>exact absurd HA.out (by simp[ligaturelaw29_count.l0])
  | succ k1 =>
   have H:=HA.out
   clear HA
   simp only[ligaturelaw29_count.l0]at H
   by_cases c3:x6_1<(l0.length:Int)
   ·rw[if_pos c3]at H
    have c3b0:decide (x6_1<(l0.length:Int))=true:=decide_eq_true c3
    clear c3
    have H':=Aside0.mk H
    clear H
    go_wp2
    go_loopg [5,7] k1 (fun kq v5 v7 w'=>∃ (x5_2:Int) (x7_2:Int),v5=.int .i64 x5_2/\v7=.int .i64 x7_2/\Aside0 (ligaturelaw29_count.l1 kq l0 a1 x5_2 x6_1 x7_2=some r)/\Aside0 (kq≤k1)/\Drawn0 w w')
    case atStart=>exact⟨(x5_1),(0),(Z12),(Z12),H',⟨Nat.le_refl _⟩,Z13⟩
    case round =>
     clear H'
     try clear c1
     try clear p2
     try clear c3
     try clear c3b0
     try clear p2
     obtain⟨x5_2,x7_2,rfl,rfl,HA,HK2,⟨m2,rfl⟩⟩:=hrel
     cases gk with
     | zero=>exact absurd HA.out (by simp[ligaturelaw29_count.l1])
     | succ k2 =>
      have H:=HA.out
      clear HA
      simp only[ligaturelaw29_count.l1]at H
      by_cases c4:0≤x6_1
      ·rw[if_pos c4]at H
       have c4b0:decide (0≤x6_1)=true:=decide_eq_true c4
       clear c4
       by_cases c5:x6_1<(l0.length:Int)
       ·rw[if_pos c5]at H
        have c5b0:decide (x6_1<(l0.length:Int))=true:=decide_eq_true c5
        clear c5
        by_cases c6:x7_2<((rd_L1 l0 x6_1).length:Int)
        ·rw[if_pos c6]at H
         have c6b0:decide (x7_2<((rd_L1 l0 x6_1).length:Int))=true:=decide_eq_true c6
         clear c6
         by_cases c7:0≤x7_2
         ·rw[if_pos c7]at H
          have c7b0:decide (0≤x7_2)=true:=decide_eq_true c7
          clear c7
          by_cases c8:(rd (rd_L1 l0 x6_1) x7_2)=a1
          ·rw[if_pos c8]at H
           have c8b0:((rd (rd_L1 l0 x6_1) x7_2)==a1)=true:=beq_iff_eq.mpr c8
           have c8b1:((rd (rd_L1 l0 x6_1) x7_2) != a1)=false:=bne_eq_false_iff_eq.mpr c8
           clear c8
           have H':=Aside0.mk H
           clear H
           have p107:0≤(x6_1:Int):=of_decide_eq_true (Z8)
           have q107:x6_1<(l0.length:Int):=of_decide_eq_true (Z8)
           obtain⟨ad107,A107_0,c107_0,e107,hx107_0,hl107_0,hi107_0⟩:=at_L1 HR0.out x6_1 p107 q107
           cases e107
           have HR107_0:=Aside0.mk hi107_0
           have HC107_0:=Aside0.mk hl107_0
           clear hi107_0 hl107_0
           replace p107:=eq_true p107
           replace q107:=eq_true q107
           have p108:0≤(x6_1:Int):=of_decide_eq_true (Z8)
           have q108:x6_1<(l0.length:Int):=of_decide_eq_true (Z8)
           obtain⟨ad108,A108_0,c108_0,e108,hx108_0,hl108_0,hi108_0⟩:=at_L1 HR0.out x6_1 p108 q108
           obtain rfl:ad107=ad108:=(by injection e108)
           have HR108_0:=Aside0.mk hi108_0
           have HC108_0:=Aside0.mk hl108_0
           clear hi108_0 hl108_0
           replace p108:=eq_true p108
           replace q108:=eq_true q108
           have ea_:=Option.some.inj (hx107_0.symm.trans hx108_0)
           injection ea_ with ea_ en_ ec_
           subst ea_
           subst ec_
           clear en_
           have p109:0≤(x7_2:Int):=of_decide_eq_true (Z8)
           have q109:x7_2<((rd_L1 l0 x6_1).length:Int):=of_decide_eq_true (Z8)
           obtain⟨ad109,e109,hx109_0⟩:=Kd.at_int HR108_0.out x7_2 p109 q109
           cases e109
           replace p109:=eq_true p109
           replace q109:=eq_true q109
           go_wp2
           go_roundg k2
           case measure=>have:=HK1.out;have:=HK2.out;omega
           case rel=>exact⟨(wrap64 (x5_2+1)),(wrap64 (x7_2+1)),(Z12),(Z12),H',⟨Z14⟩,Z13⟩
          ·rw[if_neg c8]at H
           have c8b0:((rd (rd_L1 l0 x6_1) x7_2)==a1)=false:=beq_eq_false_iff_ne.mpr c8
           have c8b1:((rd (rd_L1 l0 x6_1) x7_2) != a1)=true:=bne_iff_ne.mpr c8
           have H':=Aside0.mk H
           clear H
           have p107:0≤(x6_1:Int):=of_decide_eq_true (Z8)
           have q107:x6_1<(l0.length:Int):=of_decide_eq_true (Z8)
           obtain⟨ad107,A107_0,c107_0,e107,hx107_0,hl107_0,hi107_0⟩:=at_L1 HR0.out x6_1 p107 q107
           cases e107
           have HR107_0:=Aside0.mk hi107_0
           have HC107_0:=Aside0.mk hl107_0
           clear hi107_0 hl107_0
           replace p107:=eq_true p107
           replace q107:=eq_true q107
           have p108:0≤(x6_1:Int):=of_decide_eq_true (Z8)
           have q108:x6_1<(l0.length:Int):=of_decide_eq_true (Z8)
           obtain⟨ad108,A108_0,c108_0,e108,hx108_0,hl108_0,hi108_0⟩:=at_L1 HR0.out x6_1 p108 q108
           obtain rfl:ad107=ad108:=(by injection e108)
           have HR108_0:=Aside0.mk hi108_0
           have HC108_0:=Aside0.mk hl108_0
           clear hi108_0 hl108_0
           replace p108:=eq_true p108
           replace q108:=eq_true q108
           have ea_:=Option.some.inj (hx107_0.symm.trans hx108_0)
           injection ea_ with ea_ en_ ec_
           subst ea_
           subst ec_
           clear en_
           have p109:0≤(x7_2:Int):=of_decide_eq_true (Z8)
           have q109:x7_2<((rd_L1 l0 x6_1).length:Int):=of_decide_eq_true (Z8)
           obtain⟨ad109,e109,hx109_0⟩:=Kd.at_int HR108_0.out x7_2 p109 q109
           cases e109
           replace p109:=eq_true p109
           replace q109:=eq_true q109
           go_wp2
           go_roundg k2
           case measure=>have:=HK1.out;have:=HK2.out;omega
           case rel=>exact⟨(x5_2),(wrap64 (x7_2+1)),(Z12),(Z12),H',⟨Z14⟩,Z13⟩
         ·rw[if_neg c7]at H
          exact absurd H (by simp)
        ·rw[if_neg c6]at H
         have c6b0:decide (x7_2<((rd_L1 l0 x6_1).length:Int))=false:=decide_eq_false c6
         clear c6
         have H':=Aside0.mk H
         clear H
         have p107:0≤(x6_1:Int):=of_decide_eq_true (Z8)
         have q107:x6_1<(l0.length:Int):=of_decide_eq_true (Z8)
         obtain⟨ad107,A107_0,c107_0,e107,hx107_0,hl107_0,hi107_0⟩:=at_L1 HR0.out x6_1 p107 q107
         cases e107
         have HR107_0:=Aside0.mk hi107_0
         have HC107_0:=Aside0.mk hl107_0
         clear hi107_0 hl107_0
         replace p107:=eq_true p107
         replace q107:=eq_true q107
         go_wp2
         go_roundg k2
         case measure=>have:=HK1.out;have:=HK2.out;omega
         case rel=>exact⟨(x5_2),(wrap64 (x6_1+1)),(Z12),(Z12),H',⟨Z14⟩,Z13⟩
       ·rw[if_neg c5]at H
        exact absurd H (by simp)
      ·rw[if_neg c4]at H
       exact absurd H (by simp)
   ·rw[if_neg c3]at H
    have c3b0:decide (x6_1<(l0.length:Int))=false:=decide_eq_false c3
    clear c3
    obtain rfl:=Option.some.inj H
    go_wp2
    go_ret
    exact⟨Z12,Z13⟩
end Go.Proofs.Ythcpdiknejblnaa.Rf
namespace Go.Proofs.Ythcpdiknejblnaa.Rf
open Go.RowKit YthcpdiknejblnaaW.PrintWords YthcpdiknejblnaaW.PrintLast YthcpdiknejblnaaW.PrintMore
attribute [local go_sem] max2_int min2_int max_two min_two max_three min_three max_four min_four
mutual
def ligaturelaw29_behind.l0:Nat->List (List Int)->Int->Int->Int->Int->Option (Int)
 | 0,_,_,_,_,_=>none
 | k+1,x0,x1,x2,x7,x8=>if x8<(x0.length:Int) then (ligaturelaw29_behind.l1 k x0 x1 x2 x7 x8 1) else (some x7)
def ligaturelaw29_behind.l1:Nat->List (List Int)->Int->Int->Int->Int->Int->Option (Int)
 | 0,_,_,_,_,_,_=>none
 | k+1,x0,x1,x2,x7,x8,x9=>if 0≤x8 then (if x8<(x0.length:Int) then (if x9<((rd_L1 x0 x8).length:Int) then (if 0≤(wrap64 (x9-1)) then (if (wrap64 (x9-1))<((rd_L1 x0 x8).length:Int) then (if (rd (rd_L1 x0 x8) (wrap64 (x9-1)))=x1 then (if 0≤x9 then (if (rd (rd_L1 x0 x8) x9)=x2 then (ligaturelaw29_behind.l1 k x0 x1 x2 (wrap64 (x7+1)) x8 (wrap64 (x9+1))) else (ligaturelaw29_behind.l1 k x0 x1 x2 x7 x8 (wrap64 (x9+1)))) else (none)) else (ligaturelaw29_behind.l1 k x0 x1 x2 x7 x8 (wrap64 (x9+1)))) else (none)) else (none)) else (ligaturelaw29_behind.l0 k x0 x1 x2 x7 (wrap64 (x8+1)))) else (none)) else (none)
end
def ligaturelaw29_behind.f (k:Nat) (l0:List (List Int)) (a1:Int) (a2:Int):Option (Int):=ligaturelaw29_behind.l0 k l0 a1 a2 0 0
theorem ligaturelaw29_behind.calls (k:Nat) (A0:Option Addr) (c0:Nat) (l0:List (List Int)) (a1:Int) (a2:Int) (r:Int) (w:World) (hr0:Kd.C (Kd.slice 3 (Kd.int .i64)) w A0 l0.length l0) (hc0:l0.length≤c0) (h:ligaturelaw29_behind.f k l0 a1 a2=some r) :
  Calls Try.prog 13 #[.slice A0 l0.length c0,.int .i64 a1,.int .i64 a2] w fun e w'=>e=.returned (.int .i64 r)/\Drawn0 w w':=by
 have HR0:=Aside0.mk hr0
 have HC0:=Aside0.mk hc0
 clear hr0 hc0
 have H:(ligaturelaw29_behind.l0 k l0 a1 a2 0 0)=some r:=h
 clear h
 have H':=Aside0.mk H
 clear H
 go_enter Try.func13,Try.ntmps13
 go_wp2
 go_loopg [7,8] k (fun kq v7 v8 w'=>∃ (x7_1:Int) (x8_1:Int),v7=.int .i64 x7_1/\v8=.int .i64 x8_1/\Aside0 (ligaturelaw29_behind.l0 kq l0 a1 a2 x7_1 x8_1=some r)/\Aside0 (kq≤k)/\Drawn0 w w')
 case atStart=>exact⟨(0),(0),(Z12),(Z12),H',⟨Nat.le_refl _⟩,Z13⟩
 case round =>
  clear H'
  try clear c1
  try clear p2
  obtain⟨x7_1,x8_1,rfl,rfl,HA,HK1,⟨m1,rfl⟩⟩:=hrel
  cases gk with
  | zero=>exact absurd HA.out (by simp[ligaturelaw29_behind.l0])
  | succ k1 =>
   have H:=HA.out
   clear HA
   simp only[ligaturelaw29_behind.l0]at H
   by_cases c4:x8_1<(l0.length:Int)
   ·rw[if_pos c4]at H
    have c4b0:decide (x8_1<(l0.length:Int))=true:=decide_eq_true c4
    clear c4
    have H':=Aside0.mk H
    clear H
    go_wp2
    go_loopg [7,9] k1 (fun kq v7 v9 w'=>∃ (x7_2:Int) (x9_2:Int),v7=.int .i64 x7_2/\v9=.int .i64 x9_2/\Aside0 (ligaturelaw29_behind.l1 kq l0 a1 a2 x7_2 x8_1 x9_2=some r)/\Aside0 (kq≤k1)/\Drawn0 w w')
    case atStart=>exact⟨(x7_1),(1),(Z12),(Z12),H',⟨Nat.le_refl _⟩,Z13⟩
    case round =>
     clear H'
     try clear c1
     try clear p2
     try clear c4
     try clear c4b0
     try clear p2
     obtain⟨x7_2,x9_2,rfl,rfl,HA,HK2,⟨m2,rfl⟩⟩:=hrel
     cases gk with
     | zero=>exact absurd HA.out (by simp[ligaturelaw29_behind.l1])
     | succ k2 =>
      have H:=HA.out
      clear HA
      simp only[ligaturelaw29_behind.l1]at H
      by_cases c5:0≤x8_1
      ·rw[if_pos c5]at H
       have c5b0:decide (0≤x8_1)=true:=decide_eq_true c5
       clear c5
       by_cases c6:x8_1<(l0.length:Int)
       ·rw[if_pos c6]at H
        have c6b0:decide (x8_1<(l0.length:Int))=true:=decide_eq_true c6
        clear c6
        by_cases c7:x9_2<((rd_L1 l0 x8_1).length:Int)
        ·rw[if_pos c7]at H
         have c7b0:decide (x9_2<((rd_L1 l0 x8_1).length:Int))=true:=decide_eq_true c7
         clear c7
         obtain⟨ji8,hji8⟩:∃ j_:Int,(wrap64 (x9_2-1))=j_:=⟨_,rfl⟩
         replace H:(if 0≤(ji8) then (if (ji8)<((rd_L1 l0 x8_1).length:Int) then (if (rd (rd_L1 l0 x8_1) (ji8))=a1 then (if 0≤x9_2 then (if (rd (rd_L1 l0 x8_1) x9_2)=a2 then (ligaturelaw29_behind.l1 k2 l0 a1 a2 (wrap64 (x7_2+1)) x8_1 (wrap64 (x9_2+1))) else (ligaturelaw29_behind.l1 k2 l0 a1 a2 x7_2 x8_1 (wrap64 (x9_2+1)))) else (none)) else (ligaturelaw29_behind.l1 k2 l0 a1 a2 x7_2 x8_1 (wrap64 (x9_2+1)))) else (none)) else (none))=some r:=by first|(rw[hji8]at H;exact H)|(simp only[hji8]at H ⊢;exact H)
         have hji8w:(IntKind.i64.wrap (x9_2-1))=ji8:=(i64_w _).trans hji8
         by_cases c9:0≤(ji8)
         ·rw[if_pos c9]at H
          have c9b0:decide (0≤(ji8))=true:=decide_eq_true c9
          clear c9
          by_cases c10:(ji8)<((rd_L1 l0 x8_1).length:Int)
          ·rw[if_pos c10]at H
           have c10b0:decide ((ji8)<((rd_L1 l0 x8_1).length:Int))=true:=decide_eq_true c10
           clear c10
           by_cases c11:(rd (rd_L1 l0 x8_1) (ji8))=a1
           ·rw[if_pos c11]at H
            have c11b0:((rd (rd_L1 l0 x8_1) (ji8))==a1)=true:=beq_iff_eq.mpr c11
            have c11b1:((rd (rd_L1 l0 x8_1) (ji8)) != a1)=false:=bne_eq_false_iff_eq.mpr c11
            clear c11
            by_cases c12:0≤x9_2
            ·rw[if_pos c12]at H
             have c12b0:decide (0≤x9_2)=true:=decide_eq_true c12
             clear c12
             by_cases c13:(rd (rd_L1 l0 x8_1) x9_2)=a2
             ·rw[if_pos c13]at H
              have c13b0:((rd (rd_L1 l0 x8_1) x9_2)==a2)=true:=beq_iff_eq.mpr c13
              have c13b1:((rd (rd_L1 l0 x8_1) x9_2) != a2)=false:=bne_eq_false_iff_eq.mpr c13
              clear c13
              have H':=Aside0.mk H
              clear H
              have p110:0≤(x8_1:Int):=of_decide_eq_true (Z8)
              have q110:x8_1<(l0.length:Int):=of_decide_eq_true (Z8)
              obtain⟨ad110,A110_0,c110_0,e110,hx110_0,hl110_0,hi110_0⟩:=at_L1 HR0.out x8_1 p110 q110
              cases e110
              have HR110_0:=Aside0.mk hi110_0
              have HC110_0:=Aside0.mk hl110_0
              clear hi110_0 hl110_0
              replace p110:=eq_true p110
              replace q110:=eq_true q110
              have p111:0≤(x8_1:Int):=of_decide_eq_true (Z8)
              have q111:x8_1<(l0.length:Int):=of_decide_eq_true (Z8)
              obtain⟨ad111,A111_0,c111_0,e111,hx111_0,hl111_0,hi111_0⟩:=at_L1 HR0.out x8_1 p111 q111
              obtain rfl:ad110=ad111:=(by injection e111)
              have HR111_0:=Aside0.mk hi111_0
              have HC111_0:=Aside0.mk hl111_0
              clear hi111_0 hl111_0
              replace p111:=eq_true p111
              replace q111:=eq_true q111
              have ea_:=Option.some.inj (hx110_0.symm.trans hx111_0)
              injection ea_ with ea_ en_ ec_
              subst ea_
              subst ec_
              clear en_
              have p112:0≤((ji8):Int):=of_decide_eq_true (Z8)
              have q112:(ji8)<((rd_L1 l0 x8_1).length:Int):=of_decide_eq_true (Z8)
              obtain⟨ad112,e112,hx112_0⟩:=Kd.at_int HR111_0.out (ji8) p112 q112
              cases e112
              replace p112:=eq_true p112
              replace q112:=eq_true q112
              have p113:0≤(x8_1:Int):=of_decide_eq_true (Z8)
              have q113:x8_1<(l0.length:Int):=of_decide_eq_true (Z8)
              obtain⟨ad113,A113_0,c113_0,e113,hx113_0,hl113_0,hi113_0⟩:=at_L1 HR0.out x8_1 p113 q113
              obtain rfl:ad110=ad113:=(by injection e113)
              have HR113_0:=Aside0.mk hi113_0
              have HC113_0:=Aside0.mk hl113_0
              clear hi113_0 hl113_0
              replace p113:=eq_true p113
              replace q113:=eq_true q113
              have ea_:=Option.some.inj (hx110_0.symm.trans hx113_0)
              injection ea_ with ea_ en_ ec_
              subst ea_
              subst ec_
              clear en_
              have p114:0≤(x9_2:Int):=of_decide_eq_true (Z8)
              have q114:x9_2<((rd_L1 l0 x8_1).length:Int):=of_decide_eq_true (Z8)
              obtain⟨ad114,e114,hx114_0⟩:=Kd.at_int HR113_0.out x9_2 p114 q114
              cases e114
              replace p114:=eq_true p114
              replace q114:=eq_true q114
              go_wp2
              go_roundg k2
              case measure=>have:=HK1.out;have:=HK2.out;omega
              case rel=>exact⟨(wrap64 (x7_2+1)),(wrap64 (x9_2+1)),(Z12),(Z12),H',⟨Z14⟩,Z13⟩
             ·rw[if_neg c13]at H
              have c13b0:((rd (rd_L1 l0 x8_1) x9_2)==a2)=false:=beq_eq_false_iff_ne.mpr c13
              have c13b1:((rd (rd_L1 l0 x8_1) x9_2) != a2)=true:=bne_iff_ne.mpr c13
              have H':=Aside0.mk H
              clear H
              have p110:0≤(x8_1:Int):=of_decide_eq_true (Z8)
              have q110:x8_1<(l0.length:Int):=of_decide_eq_true (Z8)
              obtain⟨ad110,A110_0,c110_0,e110,hx110_0,hl110_0,hi110_0⟩:=at_L1 HR0.out x8_1 p110 q110
              cases e110
              have HR110_0:=Aside0.mk hi110_0
              have HC110_0:=Aside0.mk hl110_0
              clear hi110_0 hl110_0
              replace p110:=eq_true p110
              replace q110:=eq_true q110
              have p111:0≤(x8_1:Int):=of_decide_eq_true (Z8)
              have q111:x8_1<(l0.length:Int):=of_decide_eq_true (Z8)
              obtain⟨ad111,A111_0,c111_0,e111,hx111_0,hl111_0,hi111_0⟩:=at_L1 HR0.out x8_1 p111 q111
              obtain rfl:ad110=ad111:=(by injection e111)
              have HR111_0:=Aside0.mk hi111_0
              have HC111_0:=Aside0.mk hl111_0
              clear hi111_0 hl111_0
              replace p111:=eq_true p111
              replace q111:=eq_true q111
              have ea_:=Option.some.inj (hx110_0.symm.trans hx111_0)
              injection ea_ with ea_ en_ ec_
              subst ea_
              subst ec_
              clear en_
              have p112:0≤((ji8):Int):=of_decide_eq_true (Z8)
              have q112:(ji8)<((rd_L1 l0 x8_1).length:Int):=of_decide_eq_true (Z8)
              obtain⟨ad112,e112,hx112_0⟩:=Kd.at_int HR111_0.out (ji8) p112 q112
              cases e112
              replace p112:=eq_true p112
              replace q112:=eq_true q112
              have p113:0≤(x8_1:Int):=of_decide_eq_true (Z8)
              have q113:x8_1<(l0.length:Int):=of_decide_eq_true (Z8)
              obtain⟨ad113,A113_0,c113_0,e113,hx113_0,hl113_0,hi113_0⟩:=at_L1 HR0.out x8_1 p113 q113
              obtain rfl:ad110=ad113:=(by injection e113)
              have HR113_0:=Aside0.mk hi113_0
              have HC113_0:=Aside0.mk hl113_0
              clear hi113_0 hl113_0
              replace p113:=eq_true p113
              replace q113:=eq_true q113
              have ea_:=Option.some.inj (hx110_0.symm.trans hx113_0)
              injection ea_ with ea_ en_ ec_
              subst ea_
              subst ec_
              clear en_
              have p114:0≤(x9_2:Int):=of_decide_eq_true (Z8)
              have q114:x9_2<((rd_L1 l0 x8_1).length:Int):=of_decide_eq_true (Z8)
              obtain⟨ad114,e114,hx114_0⟩:=Kd.at_int HR113_0.out x9_2 p114 q114
              cases e114
              replace p114:=eq_true p114
              replace q114:=eq_true q114
              go_wp2
              go_roundg k2
              case measure=>have:=HK1.out;have:=HK2.out;omega
              case rel=>exact⟨(x7_2),(wrap64 (x9_2+1)),(Z12),(Z12),H',⟨Z14⟩,Z13⟩
            ·rw[if_neg c12]at H
             exact absurd H (by simp)
           ·rw[if_neg c11]at H
            have c11b0:((rd (rd_L1 l0 x8_1) (ji8))==a1)=false:=beq_eq_false_iff_ne.mpr c11
            have c11b1:((rd (rd_L1 l0 x8_1) (ji8)) != a1)=true:=bne_iff_ne.mpr c11
            have H':=Aside0.mk H
            clear H
            have p110:0≤(x8_1:Int):=of_decide_eq_true (Z8)
            have q110:x8_1<(l0.length:Int):=of_decide_eq_true (Z8)
            obtain⟨ad110,A110_0,c110_0,e110,hx110_0,hl110_0,hi110_0⟩:=at_L1 HR0.out x8_1 p110 q110
            cases e110
            have HR110_0:=Aside0.mk hi110_0
            have HC110_0:=Aside0.mk hl110_0
            clear hi110_0 hl110_0
            replace p110:=eq_true p110
            replace q110:=eq_true q110
            have p111:0≤(x8_1:Int):=of_decide_eq_true (Z8)
            have q111:x8_1<(l0.length:Int):=of_decide_eq_true (Z8)
            obtain⟨ad111,A111_0,c111_0,e111,hx111_0,hl111_0,hi111_0⟩:=at_L1 HR0.out x8_1 p111 q111
            obtain rfl:ad110=ad111:=(by injection e111)
            have HR111_0:=Aside0.mk hi111_0
            have HC111_0:=Aside0.mk hl111_0
            clear hi111_0 hl111_0
            replace p111:=eq_true p111
            replace q111:=eq_true q111
            have ea_:=Option.some.inj (hx110_0.symm.trans hx111_0)
            injection ea_ with ea_ en_ ec_
            subst ea_
            subst ec_
            clear en_
            have p112:0≤((ji8):Int):=of_decide_eq_true (Z8)
            have q112:(ji8)<((rd_L1 l0 x8_1).length:Int):=of_decide_eq_true (Z8)
            obtain⟨ad112,e112,hx112_0⟩:=Kd.at_int HR111_0.out (ji8) p112 q112
            cases e112
            replace p112:=eq_true p112
            replace q112:=eq_true q112
            go_wp2
            go_roundg k2
            case measure=>have:=HK1.out;have:=HK2.out;omega
            case rel=>exact⟨(x7_2),(wrap64 (x9_2+1)),(Z12),(Z12),H',⟨Z14⟩,Z13⟩
          ·rw[if_neg c10]at H
           exact absurd H (by simp)
         ·rw[if_neg c9]at H
          exact absurd H (by simp)
        ·rw[if_neg c7]at H
         have c7b0:decide (x9_2<((rd_L1 l0 x8_1).length:Int))=false:=decide_eq_false c7
         clear c7
         have H':=Aside0.mk H
         clear H
         have p110:0≤(x8_1:Int):=of_decide_eq_true (Z8)
         have q110:x8_1<(l0.length:Int):=of_decide_eq_true (Z8)
         obtain⟨ad110,A110_0,c110_0,e110,hx110_0,hl110_0,hi110_0⟩:=at_L1 HR0.out x8_1 p110 q110
         cases e110
         have HR110_0:=Aside0.mk hi110_0
         have HC110_0:=Aside0.mk hl110_0
         clear hi110_0 hl110_0
         replace p110:=eq_true p110
         replace q110:=eq_true q110
         go_wp2
         go_roundg k2
         case measure=>have:=HK1.out;have:=HK2.out;omega
         case rel=>exact⟨(x7_2),(wrap64 (x8_1+1)),(Z12),(Z12),H',⟨Z14⟩,Z13⟩
       ·rw[if_neg c6]at H
        exact absurd H (by simp)
      ·rw[if_neg c5]at H
       exact absurd H (by simp)
   ·rw[if_neg c4]at H
    have c4b0:decide (x8_1<(l0.length:Int))=false:=decide_eq_false c4
    clear c4
    obtain rfl:=Option.some.inj H
    go_wp2
    go_ret
    exact⟨Z12,Z13⟩
end Go.Proofs.Ythcpdiknejblnaa.Rf
