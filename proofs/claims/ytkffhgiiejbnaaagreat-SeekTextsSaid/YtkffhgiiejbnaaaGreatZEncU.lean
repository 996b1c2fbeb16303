import Derived.Test.YtkffhgiiejbnaaaGreatZEncN
import Derived.Test.YtkffhgiiejbnaaaGreatZRefK
import Derived.Test.YtkffhgiiejbnaaaGreatZRefI
import Derived.Test.YtkffhgiiejbnaaaGreatZOf
import Derived.Test.YtkffhgiiejbnaaaGreatZRF21
import Derived.Test.YtkffhgiiejbnaaaGreatZRefL
import Derived.Test.YtkffhgiiejbnaaaGreatZMarkRef
import Derived.Test.YtkffhgiiejbnaaaGreatZ01
set_option maxHeartbeats 400000
set_option linter.unusedVariables false
set_option linter.unusedSimpArgs false
namespace Go.Proofs.YtkffhgiiejbnaaaGreat.Rt
open Go.RowKit YtkffhgiiejbnaaaGreatW.PrintWords YtkffhgiiejbnaaaGreatW.PrintLast YtkffhgiiejbnaaaGreatW.PrintMore Rf Aid Mp Hp Tk Vc Bn En
theorem venc_any {w:World} {v:Nat} {A0 B0 A3 A4 A5:Option Addr} {c0 d0 c3 c4 c5:Nat} {s:Vc.Sp} (h:RefAt w v A0 B0 A3 A4 A5 c0 d0 c3 c4 c5 s) (hok:VOk s) (A:Option Addr) (c:Nat) (items:List Int) (hr:Kd.C (Kd.int .i64) w A items.length items) (hc:items.length≤c) (hl:items.length≤5000) (hri:∀ x∈items,rightP s x=true) :
  Calls Tryz.prog 21 #[vV A0 B0 A3 A4 A5 c0 d0 c3 c4 c5 (tabOf s).1 s,.slice A items.length c] w fun e w'=>∃ v0:Value,e=.returned v0/\Kd.R (Kd.int .i64) 3 w' w.heap.size (fun _=>True) v0 (tokL s items)/\Below w.heap.size w w':=by
 have ht:=h.tab
 obtain⟨k,hk⟩:=enc_some hok hri hl
 exact ligatureref10_Vocab_Encode.calls k A0 c0 _ B0 d0 _ A4 c4 s.C A5 c5 s.J A3 c3 s.X A c items _ w ht.b ht.hb ht.m ht.hm (Kd.R_reads' h.C).2.2 (Kd.R_reads' h.C).2.1 (Kd.R_reads' h.J).2.2 (Kd.R_reads' h.J).2.1 (Kd.R_reads' h.X).2.2 (Kd.R_reads' h.X).2.1 hr hc hk
end Go.Proofs.YtkffhgiiejbnaaaGreat.Rt
namespace Go.Proofs.YtkffhgiiejbnaaaGreat.Rt
open Go.RowKit YtkffhgiiejbnaaaGreatW.PrintWords YtkffhgiiejbnaaaGreatW.PrintLast YtkffhgiiejbnaaaGreatW.PrintMore Rf Aid Mp Hp Tk Vc Bn En
theorem VocAt.goodX {w:World} {v:Nat} {s:Sp} (h:VocAt w v s):Mk.GoodS s.X:=by
 obtain⟨_,_,w0,pt,pb,pm,h1,h2,h3,h4,h5,h6,h7,h8⟩:=h
 exact h5.goodS
def Ro (w:World) (v:Value) (xs:List Int):Prop:=Kd.R (Kd.int .i64) 3 w 0 (fun _=>True) v xs
theorem Ro.of {w:World} {b:Nat} {v:Value} {xs:List Int} (h:Kd.R (Kd.int .i64) 3 w b (fun _=>True) v xs):Ro w v xs:=Kd.R_lower h (Nat.zero_le _)
theorem Ro.below {w w':World} {v:Value} {xs:List Int} (h:Ro w v xs) (hb:Below w.heap.size w w'):Ro w' v xs:=Kd.R_below h hb
theorem Ro.form {w:World} {v:Value} {xs:List Int} (h:Ro w v xs):∃ A c,v=.slice A xs.length c:=Kd.R_slice h
theorem Ro.rd {w:World} {A:Option Addr} {n c:Nat} {xs:List Int} (h:Ro w (.slice A n c) xs):n=xs.length/\n≤c/\Kd.C (Kd.int .i64) w A xs.length xs:=Kd.R_reads' h
theorem Ro.set {w:World} {v:Nat} {s:Sp} {u:Value} {xs:List Int} (h:Ro w u xs) (hv:VocAt w v s) (m:Value):Ro (w.setCell ⟨v,13,none⟩ m) u xs:=by
 obtain⟨cs,hb⟩:=hv.blk
 exact Kd.R_set h hb (Z32) 13 m
theorem Ro.used {w w':World} {v:Nat} {s:Sp} {u:Value} {xs:List Int} (h:Ro w u xs) (hv:VocAt w v s) (hu:Used w v w'):Ro w' u xs:=by
 obtain⟨m,hm⟩:=hu
 exact(h.set hv (.int .i64 m)).below (by rw[set_size w ⟨v,13,none⟩ (.int .i64 m)];exact hm)
end Go.Proofs.YtkffhgiiejbnaaaGreat.Rt
