import Derived.Test.YtkffhgiiejbnaaaGreatProg
import Derived.Below
import Derived.Deep.Draws
import Derived.Deep.AppendLies
import Derived.Maps.AppendAt
import Derived.OwnWalk
import Derived.Laws.BytesArg
import Derived.Laws.MakeOwn
import Derived.Laws.OwnMore
import Derived.Deep.OwnRows
import Derived.Tactics
import Derived.Lib.ConvBytes
import Derived.Laws.Slices
import Derived.WalkKit
import Derived.KernelRfl
import Derived.RowKit3
import Derived.Deep.LoopGhost
import Derived.Deep.QuietTactic
import Derived.BigQuiet
import Derived.WideLaws
import Derived.Deep.DeepCutAuto
import Derived.Deep.CutBlock
import Derived.Deep.RegionHeld3
import Derived.Laws.Rows
import Derived.Lib.AppendStr
import Derived.ArgAppend
import Derived.Laws.IdiomCopy
import Derived.OrdersHeld
import Derived.Laws.BitsLemmas
import Derived.RowKit
import Derived.Test.YtkffhgiiejbnaaaGreatQ00
set_option maxRecDepth 100000
set_option maxHeartbeats 8000000
set_option linter.unusedVariables false
set_option linter.unusedSimpArgs false
namespace Go.Proofs.YtkffhgiiejbnaaaGreat.Rf
open Go.RowKit YtkffhgiiejbnaaaGreatW.PrintWords YtkffhgiiejbnaaaGreatW.PrintLast YtkffhgiiejbnaaaGreatW.PrintMore
attribute [local go_sem] max2_int min2_int max_two min_two max_three min_three max_four min_four
def errW:Option Int->Value
 | none=>.nilIface
 | some c=>.iface 0 (.int .i64 c)
theorem errW_none:errW none=.nilIface:=rfl
theorem errW_some (c:Int):errW (some c)=.iface 0 (.int .i64 c):=rfl
theorem info3:(Tryz.prog.info? 3).map (fun i=>(i.zero,i.size,i.bytes))=some (some (.int .i64 0),1,8):=Z15
theorem info9:(Tryz.prog.info? 9).map (fun i=>(i.zero,i.size,i.bytes))=some (some (.string ⟨#[]⟩),1,16):=Z15
theorem info91:(Tryz.prog.info? 91).map (fun i=>(i.zero,i.size,i.bytes))=some (some (.agg #[(.int .i64 0),(.int .i64 0)]),2,16):=Z15
structure S93 where
 f0:Int
 f1:ByteArray
def z93:S93:=⟨(0:Int),(⟨#[]⟩:ByteArray)⟩
def k93:Kd S93:=Kd.iso (Kd.pair (Kd.int .i64) Kd.string) (fun x:S93=>(x.f0,x.f1))
theorem k93_open {w:World} {x:S93} {cs:List Value} (h:k93.K w x cs):cs=[.int .i64 x.f0,.string x.f1]:=by
 obtain⟨_,_,rfl,rfl,rfl⟩:=h
 exact rfl
theorem k93_mk (w:World) (x:S93) :k93.K w x [.int .i64 x.f0,.string x.f1]:=⟨[.int .i64 x.f0],[.string x.f1],rfl,rfl,rfl⟩
theorem k93_mkM (w:World) (base:Nat) (ok:Nat->Prop) (x:S93) :k93.M w base ok x [.int .i64 x.f0,.string x.f1]:=⟨[.int .i64 x.f0],[.string x.f1],rfl,rfl,rfl⟩
def rd_T93 (xs:List S93) (i:Int):S93:=xs.getD i.toNat z93
theorem at_T93 {w:World} {A:Option Addr} {n:Nat} {xs:List S93} (h:Kd.C k93 w A n xs) (i:Int) (h0:0≤i) (h1:i<n):∃ ad ,A=some ad/\w.cell? (ad.add (i.toNat * 2))=some (.int .i64 (rd_T93 xs i).f0)/\w.cell? ⟨(ad.add (i.toNat * 2)).block,(ad.add (i.toNat * 2)).off+1,none⟩=some (.string (rd_T93 xs i).f1):=by
 obtain⟨ad,c,e,_,hK,hc0⟩:=Kd.C_get h z93 i h0 h1
 have hc:∀ j u,c[j]?=some u->w.cell? (ad.add (i.toNat * 2+j))=some u:=hc0
 obtain rfl:=k93_open hK
 exact⟨ad,e,hc 0 _ rfl,Z174⟩
structure S165 where
 f0:Int
 f1:Int
 f2:Int
def z165:S165:=⟨(0:Int),(0:Int),(0:Int)⟩
def k165:Kd S165:=Kd.iso (Kd.pair (Kd.int .i64) (Kd.pair (Kd.int .i64) (Kd.int .i64))) (fun x:S165=>(x.f0,x.f1,x.f2))
theorem k165_open {w:World} {x:S165} {cs:List Value} (h:k165.K w x cs):cs=[.int .i64 x.f0,.int .i64 x.f1,.int .i64 x.f2]:=by
 obtain⟨_,_,rfl,rfl,⟨_,_,rfl,rfl,rfl⟩⟩:=h
 exact rfl
theorem k165_mk (w:World) (x:S165) :k165.K w x [.int .i64 x.f0,.int .i64 x.f1,.int .i64 x.f2]:=⟨[.int .i64 x.f0],[.int .i64 x.f1,.int .i64 x.f2],rfl,rfl,⟨[.int .i64 x.f1],[.int .i64 x.f2],rfl,rfl,rfl⟩⟩
theorem k165_mkM (w:World) (base:Nat) (ok:Nat->Prop) (x:S165) :k165.M w base ok x [.int .i64 x.f0,.int .i64 x.f1,.int .i64 x.f2]:=⟨[.int .i64 x.f0],[.int .i64 x.f1,.int .i64 x.f2],rfl,rfl,⟨[.int .i64 x.f1],[.int .i64 x.f2],rfl,rfl,rfl⟩⟩
def rd_T165 (xs:List S165) (i:Int):S165:=xs.getD i.toNat z165
theorem at_T165 {w:World} {A:Option Addr} {n:Nat} {xs:List S165} (h:Kd.C k165 w A n xs) (i:Int) (h0:0≤i) (h1:i<n):∃ ad ,A=some ad/\w.cell? (ad.add (i.toNat * 3))=some (.int .i64 (rd_T165 xs i).f0)/\w.cell? ⟨(ad.add (i.toNat * 3)).block,(ad.add (i.toNat * 3)).off+1,none⟩=some (.int .i64 (rd_T165 xs i).f1)/\w.cell? ⟨(ad.add (i.toNat * 3)).block,(ad.add (i.toNat * 3)).off+2,none⟩=some (.int .i64 (rd_T165 xs i).f2):=by
 obtain⟨ad,c,e,_,hK,hc0⟩:=Kd.C_get h z165 i h0 h1
 have hc:∀ j u,c[j]?=some u->w.cell? (ad.add (i.toNat * 3+j))=some u:=hc0
 obtain rfl:=k165_open hK
 exact⟨ad,e,hc 0 _ rfl,Z174,by rw[←add_field _ _ 2 (Z1)];exact hc 2 _ rfl⟩
structure S108 where
 f0:Int
 f1:Int
def z108:S108:=⟨(0:Int),(0:Int)⟩
def k108:Kd S108:=Kd.iso (Kd.pair (Kd.int .i64) (Kd.int .i64)) (fun x:S108=>(x.f0,x.f1))
theorem k108_open {w:World} {x:S108} {cs:List Value} (h:k108.K w x cs):cs=[.int .i64 x.f0,.int .i64 x.f1]:=by
 obtain⟨_,_,rfl,rfl,rfl⟩:=h
 exact rfl
theorem k108_mk (w:World) (x:S108) :k108.K w x [.int .i64 x.f0,.int .i64 x.f1]:=⟨[.int .i64 x.f0],[.int .i64 x.f1],rfl,rfl,rfl⟩
theorem k108_mkM (w:World) (base:Nat) (ok:Nat->Prop) (x:S108) :k108.M w base ok x [.int .i64 x.f0,.int .i64 x.f1]:=⟨[.int .i64 x.f0],[.int .i64 x.f1],rfl,rfl,rfl⟩
def rd_T108 (xs:List S108) (i:Int):S108:=xs.getD i.toNat z108
theorem at_T108 {w:World} {A:Option Addr} {n:Nat} {xs:List S108} (h:Kd.C k108 w A n xs) (i:Int) (h0:0≤i) (h1:i<n):∃ ad ,A=some ad/\w.cell? (ad.add (i.toNat * 2))=some (.int .i64 (rd_T108 xs i).f0)/\w.cell? ⟨(ad.add (i.toNat * 2)).block,(ad.add (i.toNat * 2)).off+1,none⟩=some (.int .i64 (rd_T108 xs i).f1):=by
 obtain⟨ad,c,e,_,hK,hc0⟩:=Kd.C_get h z108 i h0 h1
 have hc:∀ j u,c[j]?=some u->w.cell? (ad.add (i.toNat * 2+j))=some u:=hc0
 obtain rfl:=k108_open hK
 exact⟨ad,e,hc 0 _ rfl,Z174⟩
structure S292 where
 f0:Int
 f1:Int
 f2:Int
def k292:Kd S292:=Kd.iso (Kd.pair (Kd.int .i64) (Kd.pair (Kd.int .i64) (Kd.int .i64))) (fun x:S292=>(x.f0,x.f1,x.f2))
structure S91 where
 f0:Int
 f1:Int
def z91:S91:=⟨(0:Int),(0:Int)⟩
def k91:Kd S91:=Kd.iso (Kd.pair (Kd.int .i64) (Kd.int .i64)) (fun x:S91=>(x.f0,x.f1))
theorem k91_open {w:World} {x:S91} {cs:List Value} (h:k91.K w x cs):cs=[.int .i64 x.f0,.int .i64 x.f1]:=by
 obtain⟨_,_,rfl,rfl,rfl⟩:=h
 exact rfl
theorem k91_mk (w:World) (x:S91) :k91.K w x [.int .i64 x.f0,.int .i64 x.f1]:=⟨[.int .i64 x.f0],[.int .i64 x.f1],rfl,rfl,rfl⟩
theorem k91_mkM (w:World) (base:Nat) (ok:Nat->Prop) (x:S91) :k91.M w base ok x [.int .i64 x.f0,.int .i64 x.f1]:=⟨[.int .i64 x.f0],[.int .i64 x.f1],rfl,rfl,rfl⟩
def rd_T91 (xs:List S91) (i:Int):S91:=xs.getD i.toNat z91
theorem at_T91 {w:World} {A:Option Addr} {n:Nat} {xs:List S91} (h:Kd.C k91 w A n xs) (i:Int) (h0:0≤i) (h1:i<n):∃ ad ,A=some ad/\w.cell? (ad.add (i.toNat * 2))=some (.int .i64 (rd_T91 xs i).f0)/\w.cell? ⟨(ad.add (i.toNat * 2)).block,(ad.add (i.toNat * 2)).off+1,none⟩=some (.int .i64 (rd_T91 xs i).f1):=by
 obtain⟨ad,c,e,_,hK,hc0⟩:=Kd.C_get h z91 i h0 h1
 have hc:∀ j u,c[j]?=some u->w.cell? (ad.add (i.toNat * 2+j))=some u:=hc0
 obtain rfl:=k91_open hK
 exact⟨ad,e,hc 0 _ rfl,Z174⟩
structure S275 where
 f0:Int
 f1:S91
def k275:Kd S275:=Kd.iso (Kd.pair (Kd.int .i64) k91) (fun x:S275=>(x.f0,x.f1))
structure S294 where
 f0:S292
 f1:S275
def k294:Kd S294:=Kd.iso (Kd.pair k292 k275) (fun x:S294=>(x.f0,x.f1))
structure S65 where
 f0:Int
 f1:Int
 f2:Int
 f3:Bool
def k65:Kd S65:=Kd.iso (Kd.pair (Kd.int .i64) (Kd.pair (Kd.int .i64) (Kd.pair (Kd.int .i64) Kd.bool))) (fun x:S65=>(x.f0,x.f1,x.f2,x.f3))
theorem k65_open {w:World} {x:S65} {cs:List Value} (h:k65.K w x cs):cs=[.int .i64 x.f0,.int .i64 x.f1,.int .i64 x.f2,.bool x.f3]:=by
 obtain⟨_,_,rfl,rfl,⟨_,_,rfl,rfl,⟨_,_,rfl,rfl,rfl⟩⟩⟩:=h
 exact rfl
theorem k65_mkM (w:World) (base:Nat) (ok:Nat->Prop) (x:S65) :k65.M w base ok x [.int .i64 x.f0,.int .i64 x.f1,.int .i64 x.f2,.bool x.f3]:=⟨[.int .i64 x.f0],[.int .i64 x.f1,.int .i64 x.f2,.bool x.f3],rfl,rfl,⟨[.int .i64 x.f1],[.int .i64 x.f2,.bool x.f3],rfl,rfl,⟨[.int .i64 x.f2],[.bool x.f3],rfl,rfl,rfl⟩⟩⟩
end Go.Proofs.YtkffhgiiejbnaaaGreat.Rf
namespace Go.Proofs.YtkffhgiiejbnaaaGreat.Rf
open Go.RowKit YtkffhgiiejbnaaaGreatW.PrintWords YtkffhgiiejbnaaaGreatW.PrintLast YtkffhgiiejbnaaaGreatW.PrintMore
attribute [local go_sem] max2_int min2_int max_two min_two max_three min_three max_four min_four
def ligatureref02_Ints.l0:Nat->List Int->List Int->Int->Option (Bool)
 | 0,_,_,_=>none
 | k+1,x0,x1,x5=>if x5<(x0.length:Int) then (if 0≤x5 then (if x5<(x1.length:Int) then (if (rd x0 x5)=(rd x1 x5) then (ligatureref02_Ints.l0 k x0 x1 (wrap64 (x5+1))) else (some false)) else (none)) else (none)) else (some true)
def ligatureref02_Ints.f (k:Nat) (l0:List Int) (l1:List Int):Option (Bool):=if (l0.length:Int)=(l1.length:Int) then (ligatureref02_Ints.l0 k l0 l1 0) else (some false)
theorem ligatureref02_Ints.calls (k:Nat) (A0:Option Addr) (c0:Nat) (l0:List Int) (A1:Option Addr) (c1:Nat) (l1:List Int) (r:Bool) (w:World) (hr0:Kd.C (Kd.int .i64) w A0 l0.length l0) (hc0:l0.length≤c0) (hr1:Kd.C (Kd.int .i64) w A1 l1.length l1) (hc1:l1.length≤c1) (h:ligatureref02_Ints.f k l0 l1=some r) :
  Calls Tryz.prog 20 #[.slice A0 l0.length c0,.slice A1 l1.length c1] w fun e w'=>e=.returned (.bool r)/\Drawn0 w w':=by
 have HR0:=Aside0.mk hr0
 have HC0:=Aside0.mk hc0
 clear hr0 hc0
 have HR1:=Aside0.mk hr1
 have HC1:=Aside0.mk hc1
 clear hr1 hc1
 have H:(if (l0.length:Int)=(l1.length:Int) then (ligatureref02_Ints.l0 k l0 l1 0) else (some false))=some r:=h
 clear h
 by_cases c3:(l0.length:Int)=(l1.length:Int)
 ·rw[if_pos c3]at H
  have c3b0:((l0.length:Int)==(l1.length:Int))=true:=beq_iff_eq.mpr c3
  have c3b1:((l0.length:Int) != (l1.length:Int))=false:=bne_eq_false_iff_eq.mpr c3
  have c3b2:(l0.length==l1.length)=true:=by first|simpa using c3|(simp at c3 ⊢;omega)
  clear c3
  have H':=Aside0.mk H
  clear H
  go_enter Tryz.func20,Tryz.ntmps20
  go_wp2
  repeat(go_quiet (fail);try go_wp2)
  go_loopg [5] k (fun kq v5 w'=>∃ (x5_1:Int),v5=.int .i64 x5_1/\Aside0 (ligatureref02_Ints.l0 kq l0 l1 x5_1=some r)/\Aside0 (kq≤k)/\Drawn0 w w')
  case atStart=>exact⟨(0),(Z16),H',⟨Nat.le_refl _⟩,Z17⟩
  case round =>
   clear H'
   try clear c1
   try clear c2
   try clear p2
   try clear c3
   try clear c3b0
   try clear c3b1
   try clear c3b2
   obtain⟨x5_1,rfl,HA,HK1,⟨m1,rfl⟩⟩:=hrel
   cases gk with
   | zero=>exact absurd HA.out (by simp[ligatureref02_Ints.l0])
   | succ k1 =>
    have H:=HA.out
    clear HA
    simp only[ligatureref02_Ints.l0]at H
    by_cases c4:x5_1<(l0.length:Int)
    ·rw[if_pos c4]at H
     have c4b0:=decide_eq_true c4
     clear c4
     by_cases c5:0≤x5_1
     ·rw[if_pos c5]at H
      have c5b0:=decide_eq_true c5
      clear c5
      by_cases c6:x5_1<(l1.length:Int)
      ·rw[if_pos c6]at H
       have c6b0:=decide_eq_true c6
       clear c6
       by_cases c7:(rd l0 x5_1)=(rd l1 x5_1)
       ·rw[if_pos c7]at H
        have c7b0:((rd l0 x5_1)==(rd l1 x5_1))=true:=beq_iff_eq.mpr c7
        have c7b1:((rd l0 x5_1) != (rd l1 x5_1))=false:=bne_eq_false_iff_eq.mpr c7
        clear c7
        have H':=Aside0.mk H
        clear H
        have p310:0≤(x5_1:Int):=of_decide_eq_true (Z18)
        have q310:x5_1<(l0.length:Int):=of_decide_eq_true (Z18)
        obtain⟨ad310,e310,hx310_0⟩:=Kd.at_int HR0.out x5_1 p310 q310
        cases e310
        replace p310:=eq_true p310
        replace q310:=eq_true q310
        have p311:0≤(x5_1:Int):=of_decide_eq_true (Z18)
        have q311:x5_1<(l1.length:Int):=of_decide_eq_true (Z18)
        obtain⟨ad311,e311,hx311_0⟩:=Kd.at_int HR1.out x5_1 p311 q311
        cases e311
        replace p311:=eq_true p311
        replace q311:=eq_true q311
        go_wp2
        repeat(go_quiet (fail);try go_wp2)
        go_roundg k1
        case measure=>have:=HK1.out;omega
        case rel=>exact⟨(wrap64 (x5_1+1)),(Z16),H',⟨Z19⟩,Z17⟩
       ·rw[if_neg c7]at H
        have c7b0:((rd l0 x5_1)==(rd l1 x5_1))=false:=beq_eq_false_iff_ne.mpr c7
        have c7b1:((rd l0 x5_1) != (rd l1 x5_1))=true:=bne_iff_ne.mpr c7
        obtain rfl:=Option.some.inj H
        have p310:0≤(x5_1:Int):=of_decide_eq_true (Z18)
        have q310:x5_1<(l0.length:Int):=of_decide_eq_true (Z18)
        obtain⟨ad310,e310,hx310_0⟩:=Kd.at_int HR0.out x5_1 p310 q310
        cases e310
        replace p310:=eq_true p310
        replace q310:=eq_true q310
        have p311:0≤(x5_1:Int):=of_decide_eq_true (Z18)
        have q311:x5_1<(l1.length:Int):=of_decide_eq_true (Z18)
        obtain⟨ad311,e311,hx311_0⟩:=Kd.at_int HR1.out x5_1 p311 q311
        cases e311
        replace p311:=eq_true p311
        replace q311:=eq_true q311
        go_wp2
        repeat(go_quiet (fail);try go_wp2)
        go_ret
        exact⟨Z16,Z17⟩
      ·rw[if_neg c6]at H
       exact absurd H (by simp)
     ·rw[if_neg c5]at H
      exact absurd H (by simp)
    ·rw[if_neg c4]at H
     have c4b0:=decide_eq_false c4
     clear c4
     obtain rfl:=Option.some.inj H
     go_wp2
     repeat(go_quiet (fail);try go_wp2)
     go_ret
     exact⟨Z16,Z17⟩
 ·rw[if_neg c3]at H
  have c3b0:((l0.length:Int)==(l1.length:Int))=false:=beq_eq_false_iff_ne.mpr c3
  have c3b1:((l0.length:Int) != (l1.length:Int))=true:=bne_iff_ne.mpr c3
  have c3b2:(l0.length==l1.length)=false:=by first|simpa using c3|(simp at c3 ⊢;omega)
  obtain rfl:=Option.some.inj H
  go_enter Tryz.func20,Tryz.ntmps20
  go_wp2
  repeat(go_quiet (fail);try go_wp2)
  go_ret
  exact⟨Z16,Z17⟩
end Go.Proofs.YtkffhgiiejbnaaaGreat.Rf
namespace Go.Proofs.YtkffhgiiejbnaaaGreat.Rf
open Go.RowKit YtkffhgiiejbnaaaGreatW.PrintWords YtkffhgiiejbnaaaGreatW.PrintLast YtkffhgiiejbnaaaGreatW.PrintMore
attribute [local go_sem] max2_int min2_int max_two min_two max_three min_three max_four min_four
def ligatureref04_Table_Has.f (l0_0:List ByteArray) (l0_1:List (S91)) (a1:Int):Option (Bool):=if a1 ≥ 0 then (some (decide (a1<(l0_0.length:Int)))) else (some false)
theorem ligatureref04_Table_Has.calls (A0_0:Option Addr) (c0_0:Nat) (l0_0:List ByteArray) (A0_1:Option Addr) (c0_1:Nat) (l0_1:List (S91)) (a1:Int) (r:Bool) (w:World) (hr0_0:Kd.C Kd.string w A0_0 l0_0.length l0_0) (hc0_0:l0_0.length≤c0_0) (hr0_1:Kd.C k91 w A0_1 l0_1.length l0_1) (hc0_1:l0_1.length≤c0_1) (h:ligatureref04_Table_Has.f l0_0 l0_1 a1=some r) :
  Calls Tryz.prog 106 #[.agg #[.slice A0_0 l0_0.length c0_0,.slice A0_1 l0_1.length c0_1],.int .i64 a1] w fun e w'=>e=.returned (.bool r)/\Below w.heap.size w w':=by
 have hu34:=Tryz.underlying34
 have HR0_0:=Aside0.mk hr0_0
 have HC0_0:=Aside0.mk hc0_0
 clear hr0_0 hc0_0
 have HR0_1:=Aside0.mk hr0_1
 have HC0_1:=Aside0.mk hc0_1
 clear hr0_1 hc0_1
 have HB:=Aside0.mk (Below.refl w.heap.size w)
 have H:(if a1 ≥ 0 then (some (decide (a1<(l0_0.length:Int)))) else (some false))=some r:=h
 clear h
 by_cases c3:a1 ≥ 0
 ·rw[if_pos c3]at H
  have c3b0:decide (0≤a1)=true:=decide_eq_true c3
  clear c3
  obtain rfl:=Option.some.inj H
  go_enter Tryz.func106,Tryz.ntmps106
  go_wp2_with (first|((with_reducible refine gate_dst (N:=2) rfl ?_);(try(refine gate_guard (by rfl) ?_;dsimp only));refine bxE 2 (#[.slice A0_0 l0_0.length c0_0,.slice A0_1 l0_1.length c0_1]) 34 ?_;intro gb140 hg w4 hbox hb;have BK140:=Aside0.mk (hbox);have GW140:=Aside0.mk ((Z175:w.heap.size≤gb140));have GE140:=GW140;replace HB:=Aside0.mk (below_step (Z20) hb);clear hb hbox hg;have hcz5_0:w4.cell? ⟨gb140,0,none⟩=some (.slice A0_0 l0_0.length c0_0):=(blk_cell BK140.out 0).trans rfl;have hcz5_1:w4.cell? ⟨gb140,1,none⟩=some (.slice A0_1 l0_1.length c0_1):=(blk_cell BK140.out 1).trans rfl;have hfz5_0:=blk_frozen BK140.out 0;have hfz5_1:=blk_frozen BK140.out 1))
  go_ret
  exact⟨Z21,Z22⟩
 ·rw[if_neg c3]at H
  have c3b0:decide (0≤a1)=false:=decide_eq_false c3
  clear c3
  obtain rfl:=Option.some.inj H
  go_enter Tryz.func106,Tryz.ntmps106
  go_wp2_with (first|((with_reducible refine gate_dst (N:=2) rfl ?_);(try(refine gate_guard (by rfl) ?_;dsimp only));refine bxE 2 (#[.slice A0_0 l0_0.length c0_0,.slice A0_1 l0_1.length c0_1]) 34 ?_;intro gb140 hg w6 hbox hb;have BK140:=Aside0.mk (hbox);have GW140:=Aside0.mk ((Z175:w.heap.size≤gb140));have GE140:=GW140;replace HB:=Aside0.mk (below_step (Z20) hb);clear hb hbox hg))
  go_ret
  exact⟨Z21,Z22⟩
end Go.Proofs.YtkffhgiiejbnaaaGreat.Rf
namespace Go.Proofs.YtkffhgiiejbnaaaGreat.Rf
open Go.RowKit YtkffhgiiejbnaaaGreatW.PrintWords YtkffhgiiejbnaaaGreatW.PrintLast YtkffhgiiejbnaaaGreatW.PrintMore
attribute [local go_sem] max2_int min2_int max_two min_two max_three min_three max_four min_four
def ligatureref04_Table_Find.l0:Nat->ByteArray->Int->List ByteArray->List (S91)->Option (Int)
 | 0,_,_,_,_=>none
 | k+1,x1,x5,x142000,x142001=>if x5<(x142000.length:Int) then (if 0≤x5 then (if (rdOf ByteArray.empty x142000 x5).toList=x1.toList then (some x5) else (ligatureref04_Table_Find.l0 k x1 (wrap64 (x5+1)) x142000 x142001)) else (none)) else (some (-1))
def ligatureref04_Table_Find.f (k:Nat) (l0_0:List ByteArray) (l0_1:List (S91)) (a1:ByteArray):Option (Int):=ligatureref04_Table_Find.l0 k a1 0 l0_0 l0_1
theorem ligatureref04_Table_Find.calls (k:Nat) (A0_0:Option Addr) (c0_0:Nat) (l0_0:List ByteArray) (A0_1:Option Addr) (c0_1:Nat) (l0_1:List (S91)) (a1:ByteArray) (r:Int) (w:World) (hr0_0:Kd.C Kd.string w A0_0 l0_0.length l0_0) (hc0_0:l0_0.length≤c0_0) (hr0_1:Kd.C k91 w A0_1 l0_1.length l0_1) (hc0_1:l0_1.length≤c0_1) (h:ligatureref04_Table_Find.f k l0_0 l0_1 a1=some r) :
  Calls Tryz.prog 160 #[.agg #[.slice A0_0 l0_0.length c0_0,.slice A0_1 l0_1.length c0_1],.string a1] w fun e w'=>e=.returned (.int .i64 r)/\Below w.heap.size w w':=by
 have hu34:=Tryz.underlying34
 have HR0_0:=Aside0.mk hr0_0
 have HC0_0:=Aside0.mk hc0_0
 clear hr0_0 hc0_0
 have HR0_1:=Aside0.mk hr0_1
 have HC0_1:=Aside0.mk hc0_1
 clear hr0_1 hc0_1
 have HB:=Aside0.mk (Below.refl w.heap.size w)
 have H:(ligatureref04_Table_Find.l0 k a1 0 l0_0 l0_1)=some r:=h
 clear h
 have H':=Aside0.mk H
 clear H
 go_enter Tryz.func160,Tryz.ntmps160
 go_wp2_with (first|((with_reducible refine gate_dst (N:=2) rfl ?_);refine bxE 2 (#[.slice A0_0 l0_0.length c0_0,.slice A0_1 l0_1.length c0_1]) 34 ?_;intro gb141 hg w3 hbox hb;have BK141:=Aside0.mk (hbox);have GW141:=Aside0.mk ((Z175:w.heap.size≤gb141));have GE141:=GW141;replace HB:=Aside0.mk (below_step (Z20) hb);clear hb hbox hg))
 go_loopg [5] k (fun kq v5 w'=>∃ (x5_1:Int),v5=.int .i64 x5_1/\Aside0 (ligatureref04_Table_Find.l0 kq a1 x5_1 l0_0 l0_1=some r)/\Aside0 (kq≤k)/\Aside0 (w'.heap[gb141]?=some (.cells #[(.slice A0_0 l0_0.length c0_0),(.slice A0_1 l0_1.length c0_1)] 34 (0,0)))/\Aside0 (Below w.heap.size w w'))
 case atStart=>exact⟨(0),(Z16),H',⟨Nat.le_refl _⟩,⟨Z23⟩,⟨Z24⟩⟩
 case round =>
  clear H'
  try clear c1
  try clear p2
  obtain⟨x5_1,rfl,HA,HK1,BK141,HB⟩:=hrel
  cases gk with
  | zero=>exact absurd HA.out (by simp[ligatureref04_Table_Find.l0])
  | succ k1 =>
   have H:=HA.out
   clear HA
   simp only[ligatureref04_Table_Find.l0]at H
   by_cases c4:x5_1<(l0_0.length:Int)
   ·rw[if_pos c4]at H
    have c4b0:=decide_eq_true c4
    clear c4
    by_cases c5:0≤x5_1
    ·rw[if_pos c5]at H
     have c5b0:=decide_eq_true c5
     clear c5
     by_cases c6:(rdOf ByteArray.empty l0_0 x5_1).toList=a1.toList
     ·rw[if_pos c6]at H
      have c6b0:((rdOf ByteArray.empty l0_0 x5_1).toList==a1.toList)=true:=beq_iff_eq.mpr c6
      have c6b1:((rdOf ByteArray.empty l0_0 x5_1).toList != a1.toList)=false:=bne_eq_false_iff_eq.mpr c6
      clear c6
      obtain rfl:=Option.some.inj H
      have hcz7_0:wr.cell? ⟨gb141,0,none⟩=some (.slice A0_0 l0_0.length c0_0):=(blk_cell BK141.out 0).trans rfl
      have hcz7_1:wr.cell? ⟨gb141,1,none⟩=some (.slice A0_1 l0_1.length c0_1):=(blk_cell BK141.out 1).trans rfl
      have hfz7_0:=blk_frozen BK141.out 0
      have hfz7_1:=blk_frozen BK141.out 1
      have p142:0≤(x5_1:Int):=of_decide_eq_true (Z18)
      have q142:x5_1<(l0_0.length:Int):=of_decide_eq_true (Z18)
      obtain⟨ad142,e142,hx142_0⟩:=Kd.at_string HR0_0.out x5_1 p142 q142
      cases e142
      replace hx142_0:=(HB.out.cell (World.block_lt_of_cell? w _ hx142_0)).trans hx142_0
      replace p142:=eq_true p142
      replace q142:=eq_true q142
      go_wp2
      go_ret
      exact⟨Z21,Z24⟩
     ·rw[if_neg c6]at H
      have c6b0:((rdOf ByteArray.empty l0_0 x5_1).toList==a1.toList)=false:=beq_eq_false_iff_ne.mpr c6
      have c6b1:((rdOf ByteArray.empty l0_0 x5_1).toList != a1.toList)=true:=bne_iff_ne.mpr c6
      have H':=Aside0.mk H
      clear H
      have hcz8_0:wr.cell? ⟨gb141,0,none⟩=some (.slice A0_0 l0_0.length c0_0):=(blk_cell BK141.out 0).trans rfl
      have hcz8_1:wr.cell? ⟨gb141,1,none⟩=some (.slice A0_1 l0_1.length c0_1):=(blk_cell BK141.out 1).trans rfl
      have hfz8_0:=blk_frozen BK141.out 0
      have hfz8_1:=blk_frozen BK141.out 1
      have p142:0≤(x5_1:Int):=of_decide_eq_true (Z18)
      have q142:x5_1<(l0_0.length:Int):=of_decide_eq_true (Z18)
      obtain⟨ad142,e142,hx142_0⟩:=Kd.at_string HR0_0.out x5_1 p142 q142
      cases e142
      replace hx142_0:=(HB.out.cell (World.block_lt_of_cell? w _ hx142_0)).trans hx142_0
      replace p142:=eq_true p142
      replace q142:=eq_true q142
      go_wp2
      go_roundg k1
      case measure=>have:=HK1.out;omega
      case rel=>exact⟨(wrap64 (x5_1+1)),(Z16),H',⟨Z19⟩,⟨Z23⟩,⟨Z24⟩⟩
    ·rw[if_neg c5]at H
     exact absurd H (by simp)
   ·rw[if_neg c4]at H
    have c4b0:=decide_eq_false c4
    clear c4
    obtain rfl:=Option.some.inj H
    have hcz9_0:wr.cell? ⟨gb141,0,none⟩=some (.slice A0_0 l0_0.length c0_0):=(blk_cell BK141.out 0).trans rfl
    have hcz9_1:wr.cell? ⟨gb141,1,none⟩=some (.slice A0_1 l0_1.length c0_1):=(blk_cell BK141.out 1).trans rfl
    have hfz9_0:=blk_frozen BK141.out 0
    have hfz9_1:=blk_frozen BK141.out 1
    go_wp2
    go_ret
    exact⟨Z21,Z24⟩
end Go.Proofs.YtkffhgiiejbnaaaGreat.Rf
namespace Go.Proofs.YtkffhgiiejbnaaaGreat.Rf
open Go.RowKit YtkffhgiiejbnaaaGreatW.PrintWords YtkffhgiiejbnaaaGreatW.PrintLast YtkffhgiiejbnaaaGreatW.PrintMore
attribute [local go_sem] max2_int min2_int max_two min_two max_three min_three max_four min_four
def ligatureref04_Begin.l0:Nat->Int->List ByteArray->Option (List ByteArray × (List (S91)))
 | 0,_,_=>none
 | k+1,x2,x134000=>if x2<256 then (if x134000.length<8796093022208 then (ligatureref04_Begin.l0 k (wrap64 (x2+1)) (x134000++[strOfNums (([(x2) % 256]:List Int))])) else (none)) else (some (x134000,([]:List (S91))))
def ligatureref04_Begin.f (k:Nat) :Option (List ByteArray × (List (S91))):=ligatureref04_Begin.l0 k 0 ([]:List ByteArray)
theorem ligatureref04_Begin.calls (k:Nat)  (r1:List ByteArray) (r2:List (S91)) (w:World) (h:ligatureref04_Begin.f k =some (r1,r2)) :
  Calls Tryz.prog 124 #[] w fun e w'=>∃ v0_ v1_:Value,e=.returned (.agg #[v0_,v1_])/\Kd.R Kd.string 9 w' w.heap.size (fun _=>True) v0_ r1/\Kd.R k91 91 w' w.heap.size (fun _=>True) v1_ r2/\Below w.heap.size w w':=by
 have hu34:=Tryz.underlying34
 have HB:=Aside0.mk (Below.refl w.heap.size w)
 have H:(ligatureref04_Begin.l0 k 0 ([]:List ByteArray))=some (r1,r2):=h
 clear h
 have H':=Aside0.mk H
 clear H
 go_enter Tryz.func124,Tryz.ntmps124
 go_wp2_with (first|((with_reducible refine gate_dst (N:=0) rfl ?_);refine bxE 0 (#[.slice none 0 0,.slice none 0 0]) 34 ?_;intro gb132 hg w1 hbox hb;have BK132:=Aside0.mk (hbox);have GW132:=Aside0.mk ((Z175:w.heap.size≤gb132));have GE132:=GW132;replace HB:=Aside0.mk (below_step (Z20) hb);clear hb hbox hg)|((with_reducible refine gate_dst (N:=1) rfl ?_);refine bxE 1 (#[.slice none 0 0,.slice none 0 0]) 34 ?_;intro gb133 hg w2 hbox hb;have BK133:=Aside0.mk (hbox);have GW133:=Aside0.mk ((by rw[hg];exact(below_size (Z25)):w.heap.size≤gb133));have GE133:=GW133;have NB132_133:=Aside0.mk ((by rw[hg];exact Nat.ne_of_lt (blk_lt (g:=gb132) (o:=.cells #[.slice none 0 0,.slice none 0 0] 34 (0,0)) (Z26)):gb132≠gb133));have NB133_132:=Aside0.mk ((by rw[hg];exact Nat.ne_of_gt (blk_lt (g:=gb132) (o:=.cells #[.slice none 0 0,.slice none 0 0] 34 (0,0)) (Z26)):gb133≠gb132));replace BK132:=Aside0.mk (blk_below (g:=gb132) (o:=.cells #[.slice none 0 0,.slice none 0 0] 34 (0,0)) (Z26) hb);replace HB:=Aside0.mk (below_step (Z25) hb);clear hb hbox hg;have hnb3:=NB133_132.out;have hnc3:=NB132_133.out;have hcz4_0:w2.cell? ⟨gb133,0,none⟩=some (.slice none 0 0):=(blk_cell BK133.out 0).trans rfl;have hcz4_1:w2.cell? ⟨gb133,1,none⟩=some (.slice none 0 0):=(blk_cell BK133.out 1).trans rfl;have hfz4_0:=blk_frozen BK133.out 0;have hfz4_1:=blk_frozen BK133.out 1))
 go_loopg [2] k (fun kq v2 w'=>∃ (x2_1:Int) (x134000_1:List ByteArray) (u134000:Value),v2=.int .i64 x2_1/\Aside0 (ligatureref04_Begin.l0 kq x2_1 x134000_1=some (r1,r2))/\Aside0 (kq≤k)/\Aside0 (Kd.R Kd.string 9 w' w.heap.size (fun _=>True) u134000 x134000_1)/\Aside0 (w'.heap[gb132]?=some (.cells #[(.slice none 0 0),(.slice none 0 0)] 34 (0,0)))/\Aside0 (w'.heap[gb133]?=some (.cells #[u134000,(.slice none 0 0)] 34 (0,0)))/\Aside0 (Below w.heap.size w w'))
 case atStart=>exact⟨(0),(([]:List ByteArray)),(.slice none 0 0),(Z16),H',⟨Nat.le_refl _⟩,⟨Z27⟩,⟨by(with_reducible repeat(first|refine blk_drewN ?_ _|refine blk_drew ?_|refine blk_alloc ?_ _));refine blk_far ?_ NB132_133.out _;(with_reducible repeat(first|refine blk_drewN ?_ _|refine blk_drew ?_|refine blk_alloc ?_ _));refine blk_far ?_ NB132_133.out _;(with_reducible repeat(first|refine blk_drewN ?_ _|refine blk_drew ?_|refine blk_alloc ?_ _));exact BK132.out⟩,⟨by(with_reducible repeat(first|refine blk_drewN ?_ _|refine blk_drew ?_|refine blk_alloc ?_ _));refine blk_put (cs:=#[.slice none 0 0,.slice none 0 0]) ?_ 1 _ rfl;(with_reducible repeat(first|refine blk_drewN ?_ _|refine blk_drew ?_|refine blk_alloc ?_ _));refine blk_put (cs:=#[.slice none 0 0,.slice none 0 0]) ?_ 0 _ rfl;(with_reducible repeat(first|refine blk_drewN ?_ _|refine blk_drew ?_|refine blk_alloc ?_ _));exact BK133.out⟩,⟨Z28⟩⟩
 case round =>
  clear H'
  try clear c1
  try clear p2
  try clear c3
  try clear hcz4_0
  try clear hcz4_1
  try clear hfz4_0
  try clear hfz4_1
  obtain⟨x2_1,x134000_1,u134000,rfl,HA,HK1,HO_134000,BK132,BK133,HB⟩:=hrel
  cases gk with
  | zero=>exact absurd HA.out (by simp[ligatureref04_Begin.l0])
  | succ k1 =>
   have H:=HA.out
   clear HA
   simp only[ligatureref04_Begin.l0]at H
   by_cases c5:x2_1<256
   ·rw[if_pos c5]at H
    have c5b0:=decide_eq_true c5
    clear c5
    obtain⟨y134,hy134⟩:∃ y_:List Int,y_=(([(x2_1) % 256]:List Int)):=⟨_,rfl⟩
    replace H:(if x134000_1.length<8796093022208 then (ligatureref04_Begin.l0 k1 (wrap64 (x2_1+1)) (x134000_1++[strOfNums y134])) else (none))=some (r1,r2):=by first|(rw[hy134];with_reducible exact H)|(have H2_:=(Option.bind_some _ _).symm.trans H;rw[hy134];with_reducible exact H2_)|(have H2_:=(Option.bind_some _ _).symm.trans H;with_reducible exact H2_)|with_reducible exact H|(rw[hy134];exact H)|exact H
    have Ny134:=Aside0.mk hy134
    clear hy134
    by_cases c6:x134000_1.length<8796093022208
    ·rw[if_pos c6]at H
     have LMc6:=Aside0.mk c6
     clear c6
     obtain⟨y137,hy137⟩:∃ y_:List ByteArray,y_=(x134000_1++[strOfNums y134]):=⟨_,rfl⟩
     replace H:(ligatureref04_Begin.l0 k1 (wrap64 (x2_1+1)) y137)=some (r1,r2):=by first|(rw[hy137];with_reducible exact H)|(have H2_:=(Option.bind_some _ _).symm.trans H;rw[hy137];with_reducible exact H2_)|(have H2_:=(Option.bind_some _ _).symm.trans H;with_reducible exact H2_)|with_reducible exact H|(rw[hy137];exact H)|exact H
     have Ny137:=Aside0.mk hy137
     clear hy137
     have H':=Aside0.mk H
     clear H
     have hnb7:=NB133_132.out
     have hnc7:=NB132_133.out
     have hcz8_0:wr.cell? ⟨gb133,0,none⟩=some (u134000):=(blk_cell BK133.out 0).trans rfl
     have hcz8_1:wr.cell? ⟨gb133,1,none⟩=some (.slice none 0 0):=(blk_cell BK133.out 1).trans rfl
     have hfz8_0:=blk_frozen BK133.out 0
     have hfz8_1:=blk_frozen BK133.out 1
     go_wp2_with (first|((with_reducible refine gate_dst (N:=12) rfl ?_);refine Kd.R_lit (Kd.int .u8) _ 5 ?hg (N:=12) ?hd (xs:=([(x2_1) % 256]:List Int)) (inner:=[.int .u8 ((x2_1) % 256)]) (ok:=fun _=>True) (okp:=fun _=>True) ?hr ?hp (fun _ hk=>hk) trivial (Below.refl _ _) (Nat.le_refl _) (by simp) ?_;(case hd=>rfl);(case hg=>rfl);(case hr=>first|(go_simp;done)|(go_simp;rfl));(case hp=>exact(Reps.one (show Kd.M (Kd.int .u8) _ _ _ ((x2_1) % 256) [.int .u8 ((x2_1) % 256)] from rfl) (Reps.none _ _)));intro v135 w9 ho10 hb hg_ hnew_;clear hg_ hnew_;(first|rw[←Ny134.out]at ho10|(simp only[Int.reduceToNat]at ho10;rw[←Ny134.out]at ho10));have HO136:=Aside0.mk (Kd.R_lower ho10 (below_size (Z28)));replace HO_134000:=Aside0.mk (Kd.R_below (Z29) hb);replace BK132:=Aside0.mk (blk_below (g:=gb132) (o:=.cells #[.slice none 0 0,.slice none 0 0] 34 (0,0)) (Z26) hb);replace BK133:=Aside0.mk (blk_below (g:=gb133) (o:=.cells #[u134000,.slice none 0 0] 34 (0,0)) (Z30) hb);replace HB:=Aside0.mk (below_step (Z28) hb);clear hb ho10;have hcv11:=own_string (P:=Tryz.prog) Tryz.underlying109 Tryz.underlying5 Tryz.underlying9 (Kd.own_of_R HO136.out))|((with_reducible refine gate_builtin (b:=.append) (xs:=#[.tmp 9,.tmp 14]) rfl ?_);at_builtin;refine Kd.R_append Kd.string (w0:=w) w.heap.size rfl (.tmp 9) (.tmp 14) 31 9 (.string ⟨#[]⟩) 16 rfl Tryz.underlying31 info9 rfl (Z31) (Z1) u134000 x134000_1 (strOfNums y134) [.string (strOfNums y134)] (fun _=>True) (fun _=>False) rfl rfl ?aP (fun _ hk=>hk.elim) ?aF ?aO ?aB ?aS ?aL ?_;(case aP=>exact rfl);(case aB=>exact(Z28));(case aF=>exact Z32);(case aO=>exact(Z29));(case aS=>exact(below_size (Z28)));(case aL=>have:=LMc6.out;omega);intro v138 w12 ho hb hg hat;rw[←Ny137.out]at ho;have n0_:=Aside0.mk (blk_grown (g:=gb132) (o:=.cells #[.slice none 0 0,.slice none 0 0] 34 (0,0)) (Z26) hg (Kd.R_ne HO_134000.out BK132.out (Z31)));have n1_:=Aside0.mk (blk_grown (g:=gb133) (o:=.cells #[u134000,.slice none 0 0] 34 (0,0)) (Z30) hg (Kd.R_ne HO_134000.out BK133.out (Z31)));have n2_:=Aside0.mk (Kd.R_over' (by(with_reducible repeat(first|apply Kd.R_alloc|apply Kd.R_drewN|apply Kd.R_drew));exact HO136.out) (Kd.R_typed (Z29)) (Z31) hg);have n3_:=Aside0.mk (hb);have n4_:=Aside0.mk (ho);clear BK132;clear BK133;clear HO136;clear HB;clear HO_134000;have BK132:=n0_;have BK133:=n1_;have HO136:=n2_;have HB:=n3_;have HO139:=n4_;clear n0_ n1_ n2_ n3_ n4_;clear ho hb hg hat;obtain⟨Ao13,co13,eo13⟩:=Kd.R_slice HO139.out;subst eo13;have hcz14_0:w12.cell? ⟨gb133,0,none⟩=some (u134000):=(blk_cell BK133.out 0).trans rfl;have hcz14_1:w12.cell? ⟨gb133,1,none⟩=some (.slice none 0 0):=(blk_cell BK133.out 1).trans rfl;have hfz14_0:=blk_frozen BK133.out 0;have hfz14_1:=blk_frozen BK133.out 1))
     go_roundg k1
     case measure=>have:=HK1.out;omega
     case rel=>exact⟨(wrap64 (x2_1+1)),(y137),(.slice Ao13 y137.length co13),(Z16),H',⟨Z19⟩,⟨by(with_reducible repeat(first|apply Kd.R_alloc|apply Kd.R_drewN|apply Kd.R_drew));exact Kd.R_mono (Kd.R_far (p:=⟨gb133,0,none⟩) (Kd.R_types HO139.out BK133.out (Z31)) (fun _ hk=>hk.2) (.slice Ao13 y137.length co13)) (fun _ hk=>trivial)⟩,⟨by(with_reducible repeat(first|refine blk_drewN ?_ _|refine blk_drew ?_|refine blk_alloc ?_ _));refine blk_far ?_ NB132_133.out _;(with_reducible repeat(first|refine blk_drewN ?_ _|refine blk_drew ?_|refine blk_alloc ?_ _));exact BK132.out⟩,⟨by(with_reducible repeat(first|refine blk_drewN ?_ _|refine blk_drew ?_|refine blk_alloc ?_ _));refine blk_put (cs:=#[u134000,.slice none 0 0]) ?_ 0 _ rfl;(with_reducible repeat(first|refine blk_drewN ?_ _|refine blk_drew ?_|refine blk_alloc ?_ _));exact BK133.out⟩,⟨Z28⟩⟩
    ·rw[if_neg c6]at H
     exact absurd H (by simp)
   ·rw[if_neg c5]at H
    have c5b0:=decide_eq_false c5
    clear c5
    simp only[Option.some.injEq,Prod.mk.injEq]at H
    obtain⟨rfl,rfl⟩:=H
    have hnb15:=NB133_132.out
    have hnc15:=NB132_133.out
    have hcz16_0:wr.cell? ⟨gb133,0,none⟩=some (u134000):=(blk_cell BK133.out 0).trans rfl
    have hcz16_1:wr.cell? ⟨gb133,1,none⟩=some (.slice none 0 0):=(blk_cell BK133.out 1).trans rfl
    have hfz16_0:=blk_frozen BK133.out 0
    have hfz16_1:=blk_frozen BK133.out 1
    obtain⟨Ao17,co17,eo17⟩:=Kd.R_slice HO_134000.out
    subst eo17
    have hcz18_0:wr.cell? ⟨gb132,0,none⟩=some (.slice none 0 0):=(blk_cell BK132.out 0).trans rfl
    have hcz18_1:wr.cell? ⟨gb132,1,none⟩=some (.slice none 0 0):=(blk_cell BK132.out 1).trans rfl
    have hfz18_0:=blk_frozen BK132.out 0
    have hfz18_1:=blk_frozen BK132.out 1
    go_wp2
    refine bodyPost_ret (results_cell_row rfl _ _ gb132 34 #[.slice Ao17 x134000_1.length co17,.slice none 0 0] (0,0) _ rfl (by(with_reducible repeat(first|refine blk_drewN ?_ _|refine blk_drew ?_|refine blk_alloc ?_ _));refine blk_put (cs:=#[.slice Ao17 x134000_1.length co17,.slice none 0 0]) ?_ 1 _ rfl;(with_reducible repeat(first|refine blk_drewN ?_ _|refine blk_drew ?_|refine blk_alloc ?_ _));refine blk_put (cs:=#[.slice none 0 0,.slice none 0 0]) ?_ 0 _ rfl;(with_reducible repeat(first|refine blk_drewN ?_ _|refine blk_drew ?_|refine blk_alloc ?_ _));exact BK132.out) Tryz.underlying34 rfl (Z15)) rfl ?_
    exact⟨_,_,Z21,by(with_reducible repeat(first|apply Kd.R_alloc|apply Kd.R_drewN|apply Kd.R_drew));exact Kd.R_mono (Kd.R_far (p:=⟨gb132,1,none⟩) (Kd.R_far (p:=⟨gb132,0,none⟩) (Kd.R_types HO_134000.out BK132.out (Z31)) (fun _ hk=>hk.2) (.slice Ao17 x134000_1.length co17)) (fun _ hk=>hk.2) (.slice none 0 0)) (fun _ hk=>trivial),Z27,Z28⟩
end Go.Proofs.YtkffhgiiejbnaaaGreat.Rf
namespace Go.Proofs.YtkffhgiiejbnaaaGreat.Rf
open Go.RowKit YtkffhgiiejbnaaaGreatW.PrintWords YtkffhgiiejbnaaaGreatW.PrintLast YtkffhgiiejbnaaaGreatW.PrintMore
attribute [local go_sem] max2_int min2_int max_two min_two max_three min_three max_four min_four
def bound_class.f (a0:Int):Option (Bool):=if a0 ≥ 0 then (some (decide (a0<16))) else (some false)
theorem bound_class.calls (a0:Int) (r:Bool) (w:World) (h:bound_class.f a0=some r) :
  Calls Tryz.prog 154 #[.int .i64 a0] w fun e w'=>e=.returned (.bool r)/\Drawn0 w w':=by
 have H:(if a0 ≥ 0 then (some (decide (a0<16))) else (some false))=some r:=h
 clear h
 by_cases c2:a0 ≥ 0
 ·rw[if_pos c2]at H
  have c2b0:decide (0≤a0)=true:=decide_eq_true c2
  clear c2
  obtain rfl:=Option.some.inj H
  go_enter Tryz.func154,Tryz.ntmps154
  go_wp2
  go_ret
  exact⟨Z16,Z17⟩
 ·rw[if_neg c2]at H
  have c2b0:decide (0≤a0)=false:=decide_eq_false c2
  clear c2
  obtain rfl:=Option.some.inj H
  go_enter Tryz.func154,Tryz.ntmps154
  go_wp2
  go_ret
  exact⟨Z16,Z17⟩
end Go.Proofs.YtkffhgiiejbnaaaGreat.Rf
namespace Go.Proofs.YtkffhgiiejbnaaaGreat.Rf
open Go.RowKit YtkffhgiiejbnaaaGreatW.PrintWords YtkffhgiiejbnaaaGreatW.PrintLast YtkffhgiiejbnaaaGreatW.PrintMore
attribute [local go_sem] max2_int min2_int max_two min_two max_three min_three max_four min_four
def bound_span.f (a0_0:Int) (a0_1:Int) (a0_2:Int):Option (Bool):=if a0_0 ≥ 0 then (if a0_0≤a0_1 then (if a0_1<256 then ((bound_class.f a0_2).bind fun t129=>(some t129)) else (some false)) else (some false)) else (some false)
theorem bound_span.calls (a0_0:Int) (a0_1:Int) (a0_2:Int) (r:Bool) (w:World) (h:bound_span.f a0_0 a0_1 a0_2=some r) :
  Calls Tryz.prog 153 #[.agg #[.int .i64 a0_0,.int .i64 a0_1,.int .i64 a0_2]] w fun e w'=>e=.returned (.bool r)/\Below w.heap.size w w':=by
 have hu165:=Tryz.underlying165
 have HB:=Aside0.mk (Below.refl w.heap.size w)
 have H:(if a0_0 ≥ 0 then (if a0_0≤a0_1 then (if a0_1<256 then ((bound_class.f a0_2).bind fun t129=>(some t129)) else (some false)) else (some false)) else (some false))=some r:=h
 clear h
 by_cases c2:a0_0 ≥ 0
 ·rw[if_pos c2]at H
  have c2b0:decide (0≤a0_0)=true:=decide_eq_true c2
  clear c2
  by_cases c3:a0_0≤a0_1
  ·rw[if_pos c3]at H
   have c3b0:=decide_eq_true c3
   clear c3
   by_cases c4:a0_1<256
   ·rw[if_pos c4]at H
    have c4b0:=decide_eq_true c4
    clear c4
    replace H:=Option.bind_eq_some_iff.mp H
    obtain⟨t129,A50,H⟩:=H
    replace H:(some t129)=some r:=H
    have A5:=Aside0.mk A50
    clear A50
    obtain rfl:=Option.some.inj H
    go_enter Tryz.func153,Tryz.ntmps153
    go_wp2_with (first|((with_reducible refine gate_dst (N:=1) rfl ?_);refine bxE 1 (#[.int .i64 a0_0,.int .i64 a0_1,.int .i64 a0_2]) 165 ?_;intro gb128 hg w6 hbox hb;have BK128:=Aside0.mk (hbox);have GW128:=Aside0.mk ((Z175:w.heap.size≤gb128));have GE128:=GW128;replace HB:=Aside0.mk (below_step (Z20) hb);clear hb hbox hg;have hcz7_0:w6.cell? ⟨gb128,0,none⟩=some (.int .i64 a0_0):=(blk_cell BK128.out 0).trans rfl;have hcz7_1:w6.cell? ⟨gb128,1,none⟩=some (.int .i64 a0_1):=(blk_cell BK128.out 1).trans rfl;have hcz7_2:w6.cell? ⟨gb128,2,none⟩=some (.int .i64 a0_2):=(blk_cell BK128.out 2).trans rfl;have hfz7_0:=blk_frozen BK128.out 0;have hfz7_1:=blk_frozen BK128.out 1;have hfz7_2:=blk_frozen BK128.out 2)|(go_at_call 154;(with_reducible refine(bound_class.calls a0_2 t129 _ A5.out).mono ?_);rintro e w' ⟨rfl,⟨nd,rfl⟩⟩))
    go_ret
    exact⟨Z21,Z33⟩
   ·rw[if_neg c4]at H
    have c4b0:=decide_eq_false c4
    clear c4
    obtain rfl:=Option.some.inj H
    go_enter Tryz.func153,Tryz.ntmps153
    go_wp2_with (first|((with_reducible refine gate_dst (N:=1) rfl ?_);refine bxE 1 (#[.int .i64 a0_0,.int .i64 a0_1,.int .i64 a0_2]) 165 ?_;intro gb128 hg w8 hbox hb;have BK128:=Aside0.mk (hbox);have GW128:=Aside0.mk ((Z175:w.heap.size≤gb128));have GE128:=GW128;replace HB:=Aside0.mk (below_step (Z20) hb);clear hb hbox hg;have hcz9_0:w8.cell? ⟨gb128,0,none⟩=some (.int .i64 a0_0):=(blk_cell BK128.out 0).trans rfl;have hcz9_1:w8.cell? ⟨gb128,1,none⟩=some (.int .i64 a0_1):=(blk_cell BK128.out 1).trans rfl;have hcz9_2:w8.cell? ⟨gb128,2,none⟩=some (.int .i64 a0_2):=(blk_cell BK128.out 2).trans rfl;have hfz9_0:=blk_frozen BK128.out 0;have hfz9_1:=blk_frozen BK128.out 1;have hfz9_2:=blk_frozen BK128.out 2))
    go_ret
    exact⟨Z21,Z33⟩
  ·rw[if_neg c3]at H
   have c3b0:=decide_eq_false c3
   clear c3
   obtain rfl:=Option.some.inj H
   go_enter Tryz.func153,Tryz.ntmps153
   go_wp2_with (first|((with_reducible refine gate_dst (N:=1) rfl ?_);refine bxE 1 (#[.int .i64 a0_0,.int .i64 a0_1,.int .i64 a0_2]) 165 ?_;intro gb128 hg w10 hbox hb;have BK128:=Aside0.mk (hbox);have GW128:=Aside0.mk ((Z175:w.heap.size≤gb128));have GE128:=GW128;replace HB:=Aside0.mk (below_step (Z20) hb);clear hb hbox hg;have hcz11_0:w10.cell? ⟨gb128,0,none⟩=some (.int .i64 a0_0):=(blk_cell BK128.out 0).trans rfl;have hcz11_1:w10.cell? ⟨gb128,1,none⟩=some (.int .i64 a0_1):=(blk_cell BK128.out 1).trans rfl;have hcz11_2:w10.cell? ⟨gb128,2,none⟩=some (.int .i64 a0_2):=(blk_cell BK128.out 2).trans rfl;have hfz11_0:=blk_frozen BK128.out 0;have hfz11_1:=blk_frozen BK128.out 1;have hfz11_2:=blk_frozen BK128.out 2))
   go_ret
   exact⟨Z21,Z33⟩
 ·rw[if_neg c2]at H
  have c2b0:decide (0≤a0_0)=false:=decide_eq_false c2
  clear c2
  obtain rfl:=Option.some.inj H
  go_enter Tryz.func153,Tryz.ntmps153
  go_wp2_with (first|((with_reducible refine gate_dst (N:=1) rfl ?_);refine bxE 1 (#[.int .i64 a0_0,.int .i64 a0_1,.int .i64 a0_2]) 165 ?_;intro gb128 hg w12 hbox hb;have BK128:=Aside0.mk (hbox);have GW128:=Aside0.mk ((Z175:w.heap.size≤gb128));have GE128:=GW128;replace HB:=Aside0.mk (below_step (Z20) hb);clear hb hbox hg;have hcz13_0:w12.cell? ⟨gb128,0,none⟩=some (.int .i64 a0_0):=(blk_cell BK128.out 0).trans rfl;have hcz13_1:w12.cell? ⟨gb128,1,none⟩=some (.int .i64 a0_1):=(blk_cell BK128.out 1).trans rfl;have hcz13_2:w12.cell? ⟨gb128,2,none⟩=some (.int .i64 a0_2):=(blk_cell BK128.out 2).trans rfl;have hfz13_0:=blk_frozen BK128.out 0;have hfz13_1:=blk_frozen BK128.out 1;have hfz13_2:=blk_frozen BK128.out 2))
  go_ret
  exact⟨Z21,Z33⟩
end Go.Proofs.YtkffhgiiejbnaaaGreat.Rf
namespace Go.Proofs.YtkffhgiiejbnaaaGreat.Rf
open Go.RowKit YtkffhgiiejbnaaaGreatW.PrintWords YtkffhgiiejbnaaaGreatW.PrintLast YtkffhgiiejbnaaaGreatW.PrintMore
attribute [local go_sem] max2_int min2_int max_two min_two max_three min_three max_four min_four
def spec_within.f (a0:Int) (a1:Int) (a2:Int):Option (Bool):=if a0 ≥ a1 then (some (decide (a0≤a2))) else (some false)
theorem spec_within.calls (a0:Int) (a1:Int) (a2:Int) (r:Bool) (w:World) (h:spec_within.f a0 a1 a2=some r) :
  Calls Tryz.prog 141 #[.int .i64 a0,.int .i64 a1,.int .i64 a2] w fun e w'=>e=.returned (.bool r)/\Drawn0 w w':=by
 have H:(if a0 ≥ a1 then (some (decide (a0≤a2))) else (some false))=some r:=h
 clear h
 by_cases c4:a0 ≥ a1
 ·rw[if_pos c4]at H
  have c4b0:decide (a1≤a0)=true:=decide_eq_true c4
  clear c4
  obtain rfl:=Option.some.inj H
  go_enter Tryz.func141,Tryz.ntmps141
  go_wp2
  go_ret
  exact⟨Z16,Z17⟩
 ·rw[if_neg c4]at H
  have c4b0:decide (a1≤a0)=false:=decide_eq_false c4
  clear c4
  obtain rfl:=Option.some.inj H
  go_enter Tryz.func141,Tryz.ntmps141
  go_wp2
  go_ret
  exact⟨Z16,Z17⟩
end Go.Proofs.YtkffhgiiejbnaaaGreat.Rf
namespace Go.Proofs.YtkffhgiiejbnaaaGreat.Rf
open Go.RowKit YtkffhgiiejbnaaaGreatW.PrintWords YtkffhgiiejbnaaaGreatW.PrintLast YtkffhgiiejbnaaaGreatW.PrintMore
attribute [local go_sem] max2_int min2_int max_two min_two max_three min_three max_four min_four
def spec_merge.f (a0_0:Int) (a0_1:Int):Option (Bool):=(spec_within.f a0_0 0 999).bind fun t106=>(if t106=true then ((spec_within.f a0_1 0 999).bind fun t107=>(some t107)) else (some false))
theorem spec_merge.calls (a0_0:Int) (a0_1:Int) (r:Bool) (w:World) (h:spec_merge.f a0_0 a0_1=some r) :
  Calls Tryz.prog 108 #[.agg #[.int .i64 a0_0,.int .i64 a0_1]] w fun e w'=>e=.returned (.bool r)/\Below w.heap.size w w':=by
 have hu91:=Tryz.underlying91
 have HB:=Aside0.mk (Below.refl w.heap.size w)
 have H:((spec_within.f a0_0 0 999).bind fun t106=>(if t106=true then ((spec_within.f a0_1 0 999).bind fun t107=>(some t107)) else (some false)))=some r:=h
 clear h
 replace H:=Option.bind_eq_some_iff.mp H
 obtain⟨t106,A20,H⟩:=H
 replace H:(if t106=true then ((spec_within.f a0_1 0 999).bind fun t107=>(some t107)) else (some false))=some r:=H
 have A2:=Aside0.mk A20
 clear A20
 by_cases c3:t106=true
 ·subst c3
  have H1:((spec_within.f a0_1 0 999).bind fun t107=>(some t107))=some r:=Z34
  clear H
  have H:=H1
  clear H1
  replace H:=Option.bind_eq_some_iff.mp H
  obtain⟨t107,A40,H⟩:=H
  replace H:(some t107)=some r:=H
  have A4:=Aside0.mk A40
  clear A40
  obtain rfl:=Option.some.inj H
  go_enter Tryz.func108,Tryz.ntmps108
  go_wp2_with (first|((with_reducible refine gate_dst (N:=1) rfl ?_);refine bxE 1 (#[.int .i64 a0_0,.int .i64 a0_1]) 91 ?_;intro gb105 hg w5 hbox hb;have BK105:=Aside0.mk (hbox);have GW105:=Aside0.mk ((Z175:w.heap.size≤gb105));have GE105:=GW105;replace HB:=Aside0.mk (below_step (Z20) hb);clear hb hbox hg;have hcz6_0:w5.cell? ⟨gb105,0,none⟩=some (.int .i64 a0_0):=(blk_cell BK105.out 0).trans rfl;have hcz6_1:w5.cell? ⟨gb105,1,none⟩=some (.int .i64 a0_1):=(blk_cell BK105.out 1).trans rfl;have hfz6_0:=blk_frozen BK105.out 0;have hfz6_1:=blk_frozen BK105.out 1)|((with_reducible refine gate_callee (f:=141) rfl ?_);refine goesL_ (some 5) rfl rfl Tryz.func141 (Z15) rfl #[.int .i64 a0_0,.int .i64 0,.int .i64 999] rfl (Z35) ?_;(with_reducible refine(spec_within.calls a0_0 0 999 true _ A2.out).mono ?_);rintro e w' ⟨rfl,⟨nd,rfl⟩⟩;refine⟨_,rfl,?_⟩)|(go_at_call 141;(with_reducible refine(spec_within.calls a0_1 0 999 t107 _ A4.out).mono ?_);rintro e w' ⟨rfl,⟨nd,rfl⟩⟩))
  go_ret
  exact⟨Z21,Z36⟩
 ·replace c3:=Bool.eq_false_iff.mpr c3
  subst c3
  have H1:(some false)=some r:=Z176
  clear H
  have H:=H1
  clear H1
  obtain rfl:=Option.some.inj H
  go_enter Tryz.func108,Tryz.ntmps108
  go_wp2_with (first|((with_reducible refine gate_dst (N:=1) rfl ?_);refine bxE 1 (#[.int .i64 a0_0,.int .i64 a0_1]) 91 ?_;intro gb105 hg w7 hbox hb;have BK105:=Aside0.mk (hbox);have GW105:=Aside0.mk ((Z175:w.heap.size≤gb105));have GE105:=GW105;replace HB:=Aside0.mk (below_step (Z20) hb);clear hb hbox hg;have hcz8_0:w7.cell? ⟨gb105,0,none⟩=some (.int .i64 a0_0):=(blk_cell BK105.out 0).trans rfl;have hcz8_1:w7.cell? ⟨gb105,1,none⟩=some (.int .i64 a0_1):=(blk_cell BK105.out 1).trans rfl;have hfz8_0:=blk_frozen BK105.out 0;have hfz8_1:=blk_frozen BK105.out 1)|((with_reducible refine gate_callee (f:=141) rfl ?_);refine goesL_ (some 5) rfl rfl Tryz.func141 (Z15) rfl #[.int .i64 a0_0,.int .i64 0,.int .i64 999] rfl (Z35) ?_;(with_reducible refine(spec_within.calls a0_0 0 999 false _ A2.out).mono ?_);rintro e w' ⟨rfl,⟨nd,rfl⟩⟩;refine⟨_,rfl,?_⟩))
  go_ret
  exact⟨Z21,Z36⟩
end Go.Proofs.YtkffhgiiejbnaaaGreat.Rf
namespace Go.Proofs.YtkffhgiiejbnaaaGreat.Rf
open Go.RowKit YtkffhgiiejbnaaaGreatW.PrintWords YtkffhgiiejbnaaaGreatW.PrintLast YtkffhgiiejbnaaaGreatW.PrintMore
attribute [local go_sem] max2_int min2_int max_two min_two max_three min_three max_four min_four
def spec_special.f (a0_0:Int) (a0_1:ByteArray):Option (Bool):=(spec_within.f a0_0 0 1073741824).bind fun t110=>(if t110=true then ((spec_within.f (a0_1.size:Int) 1 64).bind fun t111=>(some t111)) else (some false))
theorem spec_special.calls (a0_0:Int) (a0_1:ByteArray) (r:Bool) (w:World) (h:spec_special.f a0_0 a0_1=some r) :
  Calls Tryz.prog 112 #[.agg #[.int .i64 a0_0,.string a0_1]] w fun e w'=>e=.returned (.bool r)/\Below w.heap.size w w':=by
 have hu93:=Tryz.underlying93
 have HB:=Aside0.mk (Below.refl w.heap.size w)
 have H:((spec_within.f a0_0 0 1073741824).bind fun t110=>(if t110=true then ((spec_within.f (a0_1.size:Int) 1 64).bind fun t111=>(some t111)) else (some false)))=some r:=h
 clear h
 replace H:=Option.bind_eq_some_iff.mp H
 obtain⟨t110,A20,H⟩:=H
 replace H:(if t110=true then ((spec_within.f (a0_1.size:Int) 1 64).bind fun t111=>(some t111)) else (some false))=some r:=H
 have A2:=Aside0.mk A20
 clear A20
 by_cases c3:t110=true
 ·subst c3
  have H1:((spec_within.f (a0_1.size:Int) 1 64).bind fun t111=>(some t111))=some r:=Z34
  clear H
  have H:=H1
  clear H1
  replace H:=Option.bind_eq_some_iff.mp H
  obtain⟨t111,A40,H⟩:=H
  replace H:(some t111)=some r:=H
  have A4:=Aside0.mk A40
  clear A40
  obtain rfl:=Option.some.inj H
  go_enter Tryz.func112,Tryz.ntmps112
  go_wp2_with (first|((with_reducible refine gate_dst (N:=1) rfl ?_);(try(refine gate_guard (by rfl) ?_;dsimp only));refine bxE 1 (#[.int .i64 a0_0,.string a0_1]) 93 ?_;intro gb109 hg w5 hbox hb;have BK109:=Aside0.mk (hbox);have GW109:=Aside0.mk ((Z175:w.heap.size≤gb109));have GE109:=GW109;replace HB:=Aside0.mk (below_step (Z20) hb);clear hb hbox hg;have hcz6_0:w5.cell? ⟨gb109,0,none⟩=some (.int .i64 a0_0):=(blk_cell BK109.out 0).trans rfl;have hcz6_1:w5.cell? ⟨gb109,1,none⟩=some (.string a0_1):=(blk_cell BK109.out 1).trans rfl;have hfz6_0:=blk_frozen BK109.out 0;have hfz6_1:=blk_frozen BK109.out 1)|((with_reducible refine gate_callee (f:=141) rfl ?_);refine goesL_ (some 5) rfl rfl Tryz.func141 (Z15) rfl #[.int .i64 a0_0,.int .i64 0,.int .i64 1073741824] rfl (Z35) ?_;(with_reducible refine(spec_within.calls a0_0 0 1073741824 true _ A2.out).mono ?_);rintro e w' ⟨rfl,⟨nd,rfl⟩⟩;refine⟨_,rfl,?_⟩)|(go_at_call 141;(with_reducible refine(spec_within.calls (a0_1.size:Int) 1 64 t111 _ A4.out).mono ?_);rintro e w' ⟨rfl,⟨nd,rfl⟩⟩))
  go_ret
  exact⟨Z21,Z37⟩
 ·replace c3:=Bool.eq_false_iff.mpr c3
  subst c3
  have H1:(some false)=some r:=Z176
  clear H
  have H:=H1
  clear H1
  obtain rfl:=Option.some.inj H
  go_enter Tryz.func112,Tryz.ntmps112
  go_wp2_with (first|((with_reducible refine gate_dst (N:=1) rfl ?_);(try(refine gate_guard (by rfl) ?_;dsimp only));refine bxE 1 (#[.int .i64 a0_0,.string a0_1]) 93 ?_;intro gb109 hg w7 hbox hb;have BK109:=Aside0.mk (hbox);have GW109:=Aside0.mk ((Z175:w.heap.size≤gb109));have GE109:=GW109;replace HB:=Aside0.mk (below_step (Z20) hb);clear hb hbox hg;have hcz8_0:w7.cell? ⟨gb109,0,none⟩=some (.int .i64 a0_0):=(blk_cell BK109.out 0).trans rfl;have hcz8_1:w7.cell? ⟨gb109,1,none⟩=some (.string a0_1):=(blk_cell BK109.out 1).trans rfl;have hfz8_0:=blk_frozen BK109.out 0;have hfz8_1:=blk_frozen BK109.out 1)|((with_reducible refine gate_callee (f:=141) rfl ?_);refine goesL_ (some 5) rfl rfl Tryz.func141 (Z15) rfl #[.int .i64 a0_0,.int .i64 0,.int .i64 1073741824] rfl (Z35) ?_;(with_reducible refine(spec_within.calls a0_0 0 1073741824 false _ A2.out).mono ?_);rintro e w' ⟨rfl,⟨nd,rfl⟩⟩;refine⟨_,rfl,?_⟩))
  go_ret
  exact⟨Z21,Z37⟩
end Go.Proofs.YtkffhgiiejbnaaaGreat.Rf
namespace Go.Proofs.YtkffhgiiejbnaaaGreat.Rf
open Go.RowKit YtkffhgiiejbnaaaGreatW.PrintWords YtkffhgiiejbnaaaGreatW.PrintLast YtkffhgiiejbnaaaGreatW.PrintMore
attribute [local go_sem] max2_int min2_int max_two min_two max_three min_three max_four min_four
def spec_class.f (a0_0:Int) (a0_1:Int) (a0_2:Int):Option (Bool):=(spec_within.f a0_0 0 a0_1).bind fun t113=>(if t113=true then (if a0_1≤255 then ((spec_within.f a0_2 0 15).bind fun t114=>(some t114)) else (some false)) else (some false))
theorem spec_class.calls (a0_0:Int) (a0_1:Int) (a0_2:Int) (r:Bool) (w:World) (h:spec_class.f a0_0 a0_1 a0_2=some r) :
  Calls Tryz.prog 114 #[.agg #[.int .i64 a0_0,.int .i64 a0_1,.int .i64 a0_2]] w fun e w'=>e=.returned (.bool r)/\Below w.heap.size w w':=by
 have hu165:=Tryz.underlying165
 have HB:=Aside0.mk (Below.refl w.heap.size w)
 have H:((spec_within.f a0_0 0 a0_1).bind fun t113=>(if t113=true then (if a0_1≤255 then ((spec_within.f a0_2 0 15).bind fun t114=>(some t114)) else (some false)) else (some false)))=some r:=h
 clear h
 replace H:=Option.bind_eq_some_iff.mp H
 obtain⟨t113,A20,H⟩:=H
 replace H:(if t113=true then (if a0_1≤255 then ((spec_within.f a0_2 0 15).bind fun t114=>(some t114)) else (some false)) else (some false))=some r:=H
 have A2:=Aside0.mk A20
 clear A20
 by_cases c3:t113=true
 ·subst c3
  have H1:(if a0_1≤255 then ((spec_within.f a0_2 0 15).bind fun t114=>(some t114)) else (some false))=some r:=Z34
  clear H
  have H:=H1
  clear H1
  by_cases c4:a0_1≤255
  ·rw[if_pos c4]at H
   have c4b0:=decide_eq_true c4
   clear c4
   replace H:=Option.bind_eq_some_iff.mp H
   obtain⟨t114,A50,H⟩:=H
   replace H:(some t114)=some r:=H
   have A5:=Aside0.mk A50
   clear A50
   obtain rfl:=Option.some.inj H
   go_enter Tryz.func114,Tryz.ntmps114
   go_wp2_with (first|((with_reducible refine gate_dst (N:=1) rfl ?_);refine bxE 1 (#[.int .i64 a0_0,.int .i64 a0_1,.int .i64 a0_2]) 165 ?_;intro gb112 hg w6 hbox hb;have BK112:=Aside0.mk (hbox);have GW112:=Aside0.mk ((Z175:w.heap.size≤gb112));have GE112:=GW112;replace HB:=Aside0.mk (below_step (Z20) hb);clear hb hbox hg;have hcz7_0:w6.cell? ⟨gb112,0,none⟩=some (.int .i64 a0_0):=(blk_cell BK112.out 0).trans rfl;have hcz7_1:w6.cell? ⟨gb112,1,none⟩=some (.int .i64 a0_1):=(blk_cell BK112.out 1).trans rfl;have hcz7_2:w6.cell? ⟨gb112,2,none⟩=some (.int .i64 a0_2):=(blk_cell BK112.out 2).trans rfl;have hfz7_0:=blk_frozen BK112.out 0;have hfz7_1:=blk_frozen BK112.out 1;have hfz7_2:=blk_frozen BK112.out 2)|((with_reducible refine gate_callee (f:=141) rfl ?_);refine goesL_ (some 7) rfl rfl Tryz.func141 (Z15) rfl #[.int .i64 a0_0,.int .i64 0,.int .i64 a0_1] rfl (Z35) ?_;(with_reducible refine(spec_within.calls a0_0 0 a0_1 true _ A2.out).mono ?_);rintro e w' ⟨rfl,⟨nd,rfl⟩⟩;refine⟨_,rfl,?_⟩)|(go_at_call 141;(with_reducible refine(spec_within.calls a0_2 0 15 t114 _ A5.out).mono ?_);rintro e w' ⟨rfl,⟨nd,rfl⟩⟩))
   go_ret
   exact⟨Z21,Z38⟩
  ·rw[if_neg c4]at H
   have c4b0:=decide_eq_false c4
   clear c4
   obtain rfl:=Option.some.inj H
   go_enter Tryz.func114,Tryz.ntmps114
   go_wp2_with (first|((with_reducible refine gate_dst (N:=1) rfl ?_);refine bxE 1 (#[.int .i64 a0_0,.int .i64 a0_1,.int .i64 a0_2]) 165 ?_;intro gb112 hg w8 hbox hb;have BK112:=Aside0.mk (hbox);have GW112:=Aside0.mk ((Z175:w.heap.size≤gb112));have GE112:=GW112;replace HB:=Aside0.mk (below_step (Z20) hb);clear hb hbox hg;have hcz9_0:w8.cell? ⟨gb112,0,none⟩=some (.int .i64 a0_0):=(blk_cell BK112.out 0).trans rfl;have hcz9_1:w8.cell? ⟨gb112,1,none⟩=some (.int .i64 a0_1):=(blk_cell BK112.out 1).trans rfl;have hcz9_2:w8.cell? ⟨gb112,2,none⟩=some (.int .i64 a0_2):=(blk_cell BK112.out 2).trans rfl;have hfz9_0:=blk_frozen BK112.out 0;have hfz9_1:=blk_frozen BK112.out 1;have hfz9_2:=blk_frozen BK112.out 2)|((with_reducible refine gate_callee (f:=141) rfl ?_);refine goesL_ (some 7) rfl rfl Tryz.func141 (Z15) rfl #[.int .i64 a0_0,.int .i64 0,.int .i64 a0_1] rfl (Z35) ?_;(with_reducible refine(spec_within.calls a0_0 0 a0_1 true _ A2.out).mono ?_);rintro e w' ⟨rfl,⟨nd,rfl⟩⟩;refine⟨_,rfl,?_⟩))
   go_ret
   exact⟨Z21,Z38⟩
 ·replace c3:=Bool.eq_false_iff.mpr c3
  subst c3
  have H1:(some false)=some r:=Z176
  clear H
  have H:=H1
  clear H1
  obtain rfl:=Option.some.inj H
  go_enter Tryz.func114,Tryz.ntmps114
  go_wp2_with (first|((with_reducible refine gate_dst (N:=1) rfl ?_);refine bxE 1 (#[.int .i64 a0_0,.int .i64 a0_1,.int .i64 a0_2]) 165 ?_;intro gb112 hg w10 hbox hb;have BK112:=Aside0.mk (hbox);have GW112:=Aside0.mk ((Z175:w.heap.size≤gb112));have GE112:=GW112;replace HB:=Aside0.mk (below_step (Z20) hb);clear hb hbox hg;have hcz11_0:w10.cell? ⟨gb112,0,none⟩=some (.int .i64 a0_0):=(blk_cell BK112.out 0).trans rfl;have hcz11_1:w10.cell? ⟨gb112,1,none⟩=some (.int .i64 a0_1):=(blk_cell BK112.out 1).trans rfl;have hcz11_2:w10.cell? ⟨gb112,2,none⟩=some (.int .i64 a0_2):=(blk_cell BK112.out 2).trans rfl;have hfz11_0:=blk_frozen BK112.out 0;have hfz11_1:=blk_frozen BK112.out 1;have hfz11_2:=blk_frozen BK112.out 2)|((with_reducible refine gate_callee (f:=141) rfl ?_);refine goesL_ (some 7) rfl rfl Tryz.func141 (Z15) rfl #[.int .i64 a0_0,.int .i64 0,.int .i64 a0_1] rfl (Z35) ?_;(with_reducible refine(spec_within.calls a0_0 0 a0_1 false _ A2.out).mono ?_);rintro e w' ⟨rfl,⟨nd,rfl⟩⟩;refine⟨_,rfl,?_⟩))
  go_ret
  exact⟨Z21,Z38⟩
end Go.Proofs.YtkffhgiiejbnaaaGreat.Rf
namespace Go.Proofs.YtkffhgiiejbnaaaGreat.Rf
open Go.RowKit YtkffhgiiejbnaaaGreatW.PrintWords YtkffhgiiejbnaaaGreatW.PrintLast YtkffhgiiejbnaaaGreatW.PrintMore
attribute [local go_sem] max2_int min2_int max_two min_two max_three min_three max_four min_four
def spec_join.f (a0_0:Int) (a0_1:Int):Option (Bool):=(spec_within.f a0_0 0 15).bind fun t116=>(if t116=true then ((spec_within.f a0_1 0 15).bind fun t117=>(some t117)) else (some false))
theorem spec_join.calls (a0_0:Int) (a0_1:Int) (r:Bool) (w:World) (h:spec_join.f a0_0 a0_1=some r) :
  Calls Tryz.prog 116 #[.agg #[.int .i64 a0_0,.int .i64 a0_1]] w fun e w'=>e=.returned (.bool r)/\Below w.heap.size w w':=by
 have hu108:=Tryz.underlying108
 have HB:=Aside0.mk (Below.refl w.heap.size w)
 have H:((spec_within.f a0_0 0 15).bind fun t116=>(if t116=true then ((spec_within.f a0_1 0 15).bind fun t117=>(some t117)) else (some false)))=some r:=h
 clear h
 replace H:=Option.bind_eq_some_iff.mp H
 obtain⟨t116,A20,H⟩:=H
 replace H:(if t116=true then ((spec_within.f a0_1 0 15).bind fun t117=>(some t117)) else (some false))=some r:=H
 have A2:=Aside0.mk A20
 clear A20
 by_cases c3:t116=true
 ·subst c3
  have H1:((spec_within.f a0_1 0 15).bind fun t117=>(some t117))=some r:=Z34
  clear H
  have H:=H1
  clear H1
  replace H:=Option.bind_eq_some_iff.mp H
  obtain⟨t117,A40,H⟩:=H
  replace H:(some t117)=some r:=H
  have A4:=Aside0.mk A40
  clear A40
  obtain rfl:=Option.some.inj H
  go_enter Tryz.func116,Tryz.ntmps116
  go_wp2_with (first|((with_reducible refine gate_dst (N:=1) rfl ?_);refine bxE 1 (#[.int .i64 a0_0,.int .i64 a0_1]) 108 ?_;intro gb115 hg w5 hbox hb;have BK115:=Aside0.mk (hbox);have GW115:=Aside0.mk ((Z175:w.heap.size≤gb115));have GE115:=GW115;replace HB:=Aside0.mk (below_step (Z20) hb);clear hb hbox hg;have hcz6_0:w5.cell? ⟨gb115,0,none⟩=some (.int .i64 a0_0):=(blk_cell BK115.out 0).trans rfl;have hcz6_1:w5.cell? ⟨gb115,1,none⟩=some (.int .i64 a0_1):=(blk_cell BK115.out 1).trans rfl;have hfz6_0:=blk_frozen BK115.out 0;have hfz6_1:=blk_frozen BK115.out 1)|((with_reducible refine gate_callee (f:=141) rfl ?_);refine goesL_ (some 5) rfl rfl Tryz.func141 (Z15) rfl #[.int .i64 a0_0,.int .i64 0,.int .i64 15] rfl (Z35) ?_;(with_reducible refine(spec_within.calls a0_0 0 15 true _ A2.out).mono ?_);rintro e w' ⟨rfl,⟨nd,rfl⟩⟩;refine⟨_,rfl,?_⟩)|(go_at_call 141;(with_reducible refine(spec_within.calls a0_1 0 15 t117 _ A4.out).mono ?_);rintro e w' ⟨rfl,⟨nd,rfl⟩⟩))
  go_ret
  exact⟨Z21,Z39⟩
 ·replace c3:=Bool.eq_false_iff.mpr c3
  subst c3
  have H1:(some false)=some r:=Z176
  clear H
  have H:=H1
  clear H1
  obtain rfl:=Option.some.inj H
  go_enter Tryz.func116,Tryz.ntmps116
  go_wp2_with (first|((with_reducible refine gate_dst (N:=1) rfl ?_);refine bxE 1 (#[.int .i64 a0_0,.int .i64 a0_1]) 108 ?_;intro gb115 hg w7 hbox hb;have BK115:=Aside0.mk (hbox);have GW115:=Aside0.mk ((Z175:w.heap.size≤gb115));have GE115:=GW115;replace HB:=Aside0.mk (below_step (Z20) hb);clear hb hbox hg;have hcz8_0:w7.cell? ⟨gb115,0,none⟩=some (.int .i64 a0_0):=(blk_cell BK115.out 0).trans rfl;have hcz8_1:w7.cell? ⟨gb115,1,none⟩=some (.int .i64 a0_1):=(blk_cell BK115.out 1).trans rfl;have hfz8_0:=blk_frozen BK115.out 0;have hfz8_1:=blk_frozen BK115.out 1)|((with_reducible refine gate_callee (f:=141) rfl ?_);refine goesL_ (some 5) rfl rfl Tryz.func141 (Z15) rfl #[.int .i64 a0_0,.int .i64 0,.int .i64 15] rfl (Z35) ?_;(with_reducible refine(spec_within.calls a0_0 0 15 false _ A2.out).mono ?_);rintro e w' ⟨rfl,⟨nd,rfl⟩⟩;refine⟨_,rfl,?_⟩))
  go_ret
  exact⟨Z21,Z39⟩
def IsS288 (w0 W:World) (g:Nat) (f0:List (S294)) (f1:Int):Prop:=∃ A0 c0,W.heap[g]?=some (.cells #[.slice A0 f0.length c0,.int .i64 f1] 288 (0,0))/\w0.heap.size≤g/\Kd.C k294 w0 A0 f0.length f0
theorem IsS288.grown {w0 W:World} {g:Nat} {f0:List (S294)} {f1:Int} {W1:World} {row:Option Nat} (h:IsS288 w0 W g f0 f1) (hw:W.grownBy W1 row) (hne:some g≠row):IsS288 w0 W1 g f0 f1:=by
 obtain⟨A0,c0,hb,hg,hr0⟩:=h
 exact⟨A0,c0,blk_grown hb hw hne,hg,hr0⟩
theorem IsS288.kept {w0 W:World} {g:Nat} {f0:List (S294)} {f1:Int} {W1:World} {S:Nat->Prop} (h:IsS288 w0 W g f0 f1) (hk:Kept W W1 S) (hne:¬ S g):IsS288 w0 W1 g f0 f1:=by
 obtain⟨A0,c0,hb,hg,hr0⟩:=h
 exact⟨A0,c0,blk_kept hb hk hne,hg,hr0⟩
theorem IsS288.below {w0 W:World} {g:Nat} {f0:List (S294)} {f1:Int} {W1:World} (h:IsS288 w0 W g f0 f1) (hw:Below W.heap.size W W1):IsS288 w0 W1 g f0 f1:=h.grown (grown_of_below hw none) (by simp)
theorem IsS288.alloc {w0 W:World} {g:Nat} {f0:List (S294)} {f1:Int} (h:IsS288 w0 W g f0 f1) (o:Obj):IsS288 w0 (W.alloc o) g f0 f1:=h.below (below_alloc (Below.refl _ _) o)
theorem IsS288.drewN {w0 W:World} {g:Nat} {f0:List (S294)} {f1:Int} (h:IsS288 w0 W g f0 f1) (m:Nat):IsS288 w0 (W.drewN m) g f0 f1:=h
theorem IsS288.drew {w0 W:World} {g:Nat} {f0:List (S294)} {f1:Int} (h:IsS288 w0 W g f0 f1):IsS288 w0 W.drew g f0 f1:=h
theorem IsS288.at_ {w0 W:World} {g:Nat} {f0:List (S294)} {f1:Int} {w':World} {m:Nat} (hq:W.drewN m=w') (h:IsS288 w0 W g f0 f1):IsS288 w0 w' g f0 f1:=by subst hq;exact IsS288.drewN h m
theorem IsS288.apart {w0 W:World} {g:Nat} {f0:List (S294)} {f1:Int} {α:Type} {d:Kd α} {e:Nat} {base:Nat} {ok:Nat->Prop} {v:Value} {xs:List α} (h:IsS288 w0 W g f0 f1) (ho:d.R e W base ok v xs) (ht:∀ q,q∈e::d.E->q≠288):d.R e W base (fun k=>ok k/\k≠g) v xs:=by
 obtain⟨A0,c0,hb,hg,hr0⟩:=h
 exact Kd.R_types ho hb ht
theorem IsS288.own_ne {w0 W:World} {g:Nat} {f0:List (S294)} {f1:Int} {α:Type} {d:Kd α} {e:Nat} {base:Nat} {ok:Nat->Prop} {v:Value} {xs:List α} (h:IsS288 w0 W g f0 f1) (ho:d.R e W base ok v xs) (ht:e≠288):some g≠v.ownBlock:=by
 obtain⟨A0,c0,hb,hg,hr0⟩:=h
 exact Kd.R_ne ho hb ht
theorem IsS288.lt {w0 W:World} {g:Nat} {f0:List (S294)} {f1:Int} (h:IsS288 w0 W g f0 f1):g<W.heap.size:=by
 obtain⟨A0,c0,hb,hg,hr0⟩:=h
 exact blk_lt hb
theorem IsS288.far {w0 W:World} {g:Nat} {f0:List (S294)} {f1:Int} {p:Addr} (h:IsS288 w0 W g f0 f1) (hne:g≠p.block) (u:Value):IsS288 w0 (W.setCell p u) g f0 f1:=by
 obtain⟨A0,c0,hb,hg,hr0⟩:=h
 exact⟨A0,c0,blk_far hb hne u,hg,hr0⟩
theorem IsS288.new (w0 W:World) (A0:Option Addr) (c0:Nat) (f0:List (S294)) (f1:Int) (hB:Below w0.heap.size w0 W) (hr0:Kd.C k294 w0 A0 f0.length f0):IsS288 w0 (W.alloc (.cells #[.slice A0 f0.length c0,.int .i64 f1] 288)) W.heap.size f0 f1:=⟨A0,c0,by simpa using heap_alloc_new W _,hB.size,hr0⟩
end Go.Proofs.YtkffhgiiejbnaaaGreat.Rf
namespace Go.Proofs.YtkffhgiiejbnaaaGreat.Rf
open Go.RowKit YtkffhgiiejbnaaaGreatW.PrintWords YtkffhgiiejbnaaaGreatW.PrintLast YtkffhgiiejbnaaaGreatW.PrintMore
attribute [local go_sem] max2_int min2_int max_two min_two max_three min_three max_four min_four
def mark_right.f (a0_0:Int) (a0_1:ByteArray):Option (Bool):=if a0_0 ≥ 0 then (if a0_0≤1073741824 then (if a0_1.toList=([]:List UInt8) then (some false) else (some (decide ((a0_1.size:Int)≤64)))) else (some false)) else (some false)
theorem mark_right.calls (a0_0:Int) (a0_1:ByteArray) (r:Bool) (w:World) (h:mark_right.f a0_0 a0_1=some r) :
  Calls Tryz.prog 172 #[.agg #[.int .i64 a0_0,.string a0_1]] w fun e w'=>e=.returned (.bool r)/\Below w.heap.size w w':=by
 have hu93:=Tryz.underlying93
 have HB:=Aside0.mk (Below.refl w.heap.size w)
 have H:(if a0_0 ≥ 0 then (if a0_0≤1073741824 then (if a0_1.toList=([]:List UInt8) then (some false) else (some (decide ((a0_1.size:Int)≤64)))) else (some false)) else (some false))=some r:=h
 clear h
 by_cases c2:a0_0 ≥ 0
 ·rw[if_pos c2]at H
  have c2b0:decide (0≤a0_0)=true:=decide_eq_true c2
  clear c2
  by_cases c3:a0_0≤1073741824
  ·rw[if_pos c3]at H
   have c3b0:=decide_eq_true c3
   clear c3
   by_cases c4:a0_1.toList=([]:List UInt8)
   ·rw[if_pos c4]at H
    have c4b0:(a0_1.toList==([]:List UInt8))=true:=beq_iff_eq.mpr c4
    have c4b1:(a0_1.toList != ([]:List UInt8))=false:=bne_eq_false_iff_eq.mpr c4
    clear c4
    obtain rfl:=Option.some.inj H
    go_enter Tryz.func172,Tryz.ntmps172
    go_wp2_with (first|((with_reducible refine gate_dst (N:=1) rfl ?_);(try(refine gate_guard (by rfl) ?_;dsimp only));refine bxE 1 (#[.int .i64 a0_0,.string a0_1]) 93 ?_;intro gb127 hg w5 hbox hb;have BK127:=Aside0.mk (hbox);have GW127:=Aside0.mk ((Z175:w.heap.size≤gb127));have GE127:=GW127;replace HB:=Aside0.mk (below_step (Z20) hb);clear hb hbox hg;have hcz6_0:w5.cell? ⟨gb127,0,none⟩=some (.int .i64 a0_0):=(blk_cell BK127.out 0).trans rfl;have hcz6_1:w5.cell? ⟨gb127,1,none⟩=some (.string a0_1):=(blk_cell BK127.out 1).trans rfl;have hfz6_0:=blk_frozen BK127.out 0;have hfz6_1:=blk_frozen BK127.out 1))
    go_ret
    exact⟨Z21,Z40⟩
   ·rw[if_neg c4]at H
    have c4b0:(a0_1.toList==([]:List UInt8))=false:=beq_eq_false_iff_ne.mpr c4
    have c4b1:(a0_1.toList != ([]:List UInt8))=true:=bne_iff_ne.mpr c4
    obtain rfl:=Option.some.inj H
    go_enter Tryz.func172,Tryz.ntmps172
    go_wp2_with (first|((with_reducible refine gate_dst (N:=1) rfl ?_);(try(refine gate_guard (by rfl) ?_;dsimp only));refine bxE 1 (#[.int .i64 a0_0,.string a0_1]) 93 ?_;intro gb127 hg w7 hbox hb;have BK127:=Aside0.mk (hbox);have GW127:=Aside0.mk ((Z175:w.heap.size≤gb127));have GE127:=GW127;replace HB:=Aside0.mk (below_step (Z20) hb);clear hb hbox hg;have hcz8_0:w7.cell? ⟨gb127,0,none⟩=some (.int .i64 a0_0):=(blk_cell BK127.out 0).trans rfl;have hcz8_1:w7.cell? ⟨gb127,1,none⟩=some (.string a0_1):=(blk_cell BK127.out 1).trans rfl;have hfz8_0:=blk_frozen BK127.out 0;have hfz8_1:=blk_frozen BK127.out 1))
    go_ret
    exact⟨Z21,Z40⟩
  ·rw[if_neg c3]at H
   have c3b0:=decide_eq_false c3
   clear c3
   obtain rfl:=Option.some.inj H
   go_enter Tryz.func172,Tryz.ntmps172
   go_wp2_with (first|((with_reducible refine gate_dst (N:=1) rfl ?_);(try(refine gate_guard (by rfl) ?_;dsimp only));refine bxE 1 (#[.int .i64 a0_0,.string a0_1]) 93 ?_;intro gb127 hg w9 hbox hb;have BK127:=Aside0.mk (hbox);have GW127:=Aside0.mk ((Z175:w.heap.size≤gb127));have GE127:=GW127;replace HB:=Aside0.mk (below_step (Z20) hb);clear hb hbox hg;have hcz10_0:w9.cell? ⟨gb127,0,none⟩=some (.int .i64 a0_0):=(blk_cell BK127.out 0).trans rfl;have hcz10_1:w9.cell? ⟨gb127,1,none⟩=some (.string a0_1):=(blk_cell BK127.out 1).trans rfl;have hfz10_0:=blk_frozen BK127.out 0;have hfz10_1:=blk_frozen BK127.out 1))
   go_ret
   exact⟨Z21,Z40⟩
 ·rw[if_neg c2]at H
  have c2b0:decide (0≤a0_0)=false:=decide_eq_false c2
  clear c2
  obtain rfl:=Option.some.inj H
  go_enter Tryz.func172,Tryz.ntmps172
  go_wp2_with (first|((with_reducible refine gate_dst (N:=1) rfl ?_);(try(refine gate_guard (by rfl) ?_;dsimp only));refine bxE 1 (#[.int .i64 a0_0,.string a0_1]) 93 ?_;intro gb127 hg w11 hbox hb;have BK127:=Aside0.mk (hbox);have GW127:=Aside0.mk ((Z175:w.heap.size≤gb127));have GE127:=GW127;replace HB:=Aside0.mk (below_step (Z20) hb);clear hb hbox hg;have hcz12_0:w11.cell? ⟨gb127,0,none⟩=some (.int .i64 a0_0):=(blk_cell BK127.out 0).trans rfl;have hcz12_1:w11.cell? ⟨gb127,1,none⟩=some (.string a0_1):=(blk_cell BK127.out 1).trans rfl;have hfz12_0:=blk_frozen BK127.out 0;have hfz12_1:=blk_frozen BK127.out 1))
  go_ret
  exact⟨Z21,Z40⟩
end Go.Proofs.YtkffhgiiejbnaaaGreat.Rf
namespace Go.Proofs.YtkffhgiiejbnaaaGreat.Rf
open Go.RowKit YtkffhgiiejbnaaaGreatW.PrintWords YtkffhgiiejbnaaaGreatW.PrintLast YtkffhgiiejbnaaaGreatW.PrintMore
attribute [local go_sem] max2_int min2_int max_two min_two max_three min_three max_four min_four
def ligatureref09_Great.l0:Nat->List (S93)->Int->Option (Bool)
 | 0,_,_=>none
 | k+1,x0,x3=>if x3<(x0.length:Int) then (if 0≤x3 then (if (((rd_T93 x0 x3).f1).size:Int)>100 then (some true) else (ligatureref09_Great.l0 k x0 (wrap64 (x3+1)))) else (none)) else (some (decide ((x0.length:Int)>40)))
def ligatureref09_Great.f (k:Nat) (l0:List (S93)):Option (Bool):=ligatureref09_Great.l0 k l0 0
theorem ligatureref09_Great.calls (k:Nat) (A0:Option Addr) (c0:Nat) (l0:List (S93)) (r:Bool) (w:World) (hr0:Kd.C k93 w A0 l0.length l0) (hc0:l0.length≤c0) (h:ligatureref09_Great.f k l0=some r) :
  Calls Tryz.prog 84 #[.slice A0 l0.length c0] w fun e w'=>e=.returned (.bool r)/\Drawn0 w w':=by
 have HR0:=Aside0.mk hr0
 have HC0:=Aside0.mk hc0
 clear hr0 hc0
 have H:(ligatureref09_Great.l0 k l0 0)=some r:=h
 clear h
 have H':=Aside0.mk H
 clear H
 go_enter Tryz.func84,Tryz.ntmps84
 go_wp2
 go_loopg [3] k (fun kq v3 w'=>∃ (x3_1:Int),v3=.int .i64 x3_1/\Aside0 (ligatureref09_Great.l0 kq l0 x3_1=some r)/\Aside0 (kq≤k)/\Drawn0 w w')
 case atStart=>exact⟨(0),(Z16),H',⟨Nat.le_refl _⟩,Z17⟩
 case round =>
  clear H'
  obtain⟨x3_1,rfl,HA,HK1,⟨m1,rfl⟩⟩:=hrel
  cases gk with
  | zero=>exact absurd HA.out (by simp[ligatureref09_Great.l0])
  | succ k1 =>
   have H:=HA.out
   clear HA
   simp only[ligatureref09_Great.l0]at H
   by_cases c2:x3_1<(l0.length:Int)
   ·rw[if_pos c2]at H
    have c2b0:=decide_eq_true c2
    clear c2
    by_cases c3:0≤x3_1
    ·rw[if_pos c3]at H
     have c3b0:=decide_eq_true c3
     clear c3
     by_cases c4:(((rd_T93 l0 x3_1).f1).size:Int)>100
     ·rw[if_pos c4]at H
      have c4b0:decide (100<(((rd_T93 l0 x3_1).f1).size:Int))=true:=decide_eq_true c4
      have c4b1:decide (100<((rd_T93 l0 x3_1).f1).size)=true:=decide_eq_true (Z1)
      clear c4
      obtain rfl:=Option.some.inj H
      have p101:=eq_true (of_decide_eq_true (Z18):0≤(x3_1:Int))
      have q101:=eq_true (of_decide_eq_true (Z18):x3_1<(l0.length:Int))
      obtain⟨ad101,e101,hx101_0,hx101_1⟩:=at_T93 HR0.out x3_1 (of_eq_true p101) (of_eq_true q101)
      cases e101
      go_wp2
      go_ret
      exact⟨Z16,Z17⟩
     ·rw[if_neg c4]at H
      have c4b0:decide (100<(((rd_T93 l0 x3_1).f1).size:Int))=false:=decide_eq_false c4
      have c4b1:decide (100<((rd_T93 l0 x3_1).f1).size)=false:=decide_eq_false (Z1)
      clear c4
      have H':=Aside0.mk H
      clear H
      have p101:=eq_true (of_decide_eq_true (Z18):0≤(x3_1:Int))
      have q101:=eq_true (of_decide_eq_true (Z18):x3_1<(l0.length:Int))
      obtain⟨ad101,e101,hx101_0,hx101_1⟩:=at_T93 HR0.out x3_1 (of_eq_true p101) (of_eq_true q101)
      cases e101
      go_wp2
      go_roundg k1
      case measure=>have:=HK1.out;omega
      case rel=>exact⟨(wrap64 (x3_1+1)),(Z16),H',⟨Z19⟩,Z17⟩
    ·rw[if_neg c3]at H
     exact absurd H (by simp)
   ·rw[if_neg c2]at H
    have c2b0:=decide_eq_false c2
    clear c2
    obtain rfl:=Option.some.inj H
    go_wp2
    go_ret
    exact⟨Z16,Z17⟩
end Go.Proofs.YtkffhgiiejbnaaaGreat.Rf
