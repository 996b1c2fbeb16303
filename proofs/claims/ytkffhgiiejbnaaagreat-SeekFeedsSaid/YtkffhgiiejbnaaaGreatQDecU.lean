import Derived.BigQuiet
import Derived.Test.YtkffhgiiejbnaaaGreatQDecC
import Derived.Test.YtkffhgiiejbnaaaGreatQRefI
import Derived.Test.YtkffhgiiejbnaaaGreatQDecF
import Derived.Test.YtkffhgiiejbnaaaGreatQDecN
import Derived.Test.YtkffhgiiejbnaaaGreatQHeldL
import Derived.Test.YtkffhgiiejbnaaaGreatQ03
set_option maxHeartbeats 400000
set_option linter.unusedVariables false
set_option linter.unusedSimpArgs false
namespace Go.Proofs.YtkffhgiiejbnaaaGreat.Dc
open Go.Shelf Go.RowKit YtkffhgiiejbnaaaGreatW.PrintWords YtkffhgiiejbnaaaGreatW.PrintLast YtkffhgiiejbnaaaGreatW.PrintMore Rf Aid Mp Hp Tk Vc
structure DecSh (w:World) (d v:Nat) (told:Nat):Prop where
 blk:w.heap[d]?=some (.cells #[.string ⟨#[]⟩,.pointer (some ⟨v,0,none⟩),.bool true,.int .i64 (told:Int)] 155 (0,0))
theorem DecSh.below {w w':World} {d v told:Nat} (h:DecSh w d v told) (hb:Below w.heap.size w w'):DecSh w' d v told:=⟨(hb.block _ (blk_lt h.blk)).trans h.blk⟩
end Go.Proofs.YtkffhgiiejbnaaaGreat.Dc
namespace Go.Proofs.YtkffhgiiejbnaaaGreat.Dc
open Go.Shelf Go.RowKit YtkffhgiiejbnaaaGreatW.PrintWords YtkffhgiiejbnaaaGreatW.PrintLast YtkffhgiiejbnaaaGreatW.PrintMore Rf Aid Mp Hp Tk Vc
theorem at_sl {w:World} {A:Option Addr} {n:Nat} {l:List (List Int)} (h:Kd.C (Kd.slice 3 (Kd.int .i64)) w A n l) {i:Nat} (hi:i<l.length) :
  ∃ ad A' c',A=some ad/\w.cell? (ad.add i)=some (.slice A' (l[i]).length c')/\(l[i]).length≤c'/\Kd.C (Kd.int .i64) w A' (l[i]).length l[i]:=by
 have hn:l.length=n:=h.1
 obtain⟨ad,c,e,_,hK,hc⟩:=Kd.C_get h [] (i:Int) (Z1) (Z1)
 rw[Int.toNat_natCast,List.getD_eq_getElem?_getD,List.getElem?_eq_getElem hi]at hK
 obtain⟨A',c',e',h1,h2⟩:=hK
 have e'':c=[.slice A' (l[i]).length c']:=e'
 subst e''
 refine⟨ad,A',c',e,?_,h1,h2⟩
 have h3:=hc 0 _ rfl
 rw[Int.toNat_natCast]at h3
 have e2:i * (Kd.slice 3 (Kd.int .i64)).sz+0=i:=by show i * 1+0=i;omega
 rw[e2]at h3
 exact h3
end Go.Proofs.YtkffhgiiejbnaaaGreat.Dc
namespace Go.Proofs.YtkffhgiiejbnaaaGreat.Rt
open Go.RowKit YtkffhgiiejbnaaaGreatW.PrintWords YtkffhgiiejbnaaaGreatW.PrintLast YtkffhgiiejbnaaaGreatW.PrintMore Rf Aid Mp Hp Tk Vc Dc
theorem vbad_any {w:World} {v:Nat} {A0 B0 A3 A4 A5:Option Addr} {c0 d0 c3 c4 c5:Nat} {s:Vc.Sp} (h:RefAt w v A0 B0 A3 A4 A5 c0 d0 c3 c4 c5 s) (hX:s.X.length≤1000) (A:Option Addr) (c:Nat) (ids:List Int) (hr:Kd.C (Kd.int .i64) w A ids.length ids) (hc:ids.length≤c) (hl:ids.length≤1000000) :
  Calls Tryz.prog 34 #[vV A0 B0 A3 A4 A5 c0 d0 c3 c4 c5 (tabOf s).1 s,.slice A ids.length c] w fun e w'=>e=.returned (.int .i64 (badI (badF s ids)))/\Below w.heap.size w w':=by
 have ht:=h.tab
 exact ligatureref10_Vocab_Bad.calls _ A0 c0 _ B0 d0 _ A4 c4 s.C A5 c5 s.J A3 c3 s.X A c ids _ w ht.b ht.hb ht.m ht.hm (Kd.R_reads' h.C).2.2 (Kd.R_reads' h.C).2.1 (Kd.R_reads' h.J).2.2 (Kd.R_reads' h.J).2.1 (Kd.R_reads' h.X).2.2 (Kd.R_reads' h.X).2.1 hr hc (bad_some s hX ids hl)
theorem vitems_any {w:World} {v:Nat} {A0 B0 A3 A4 A5:Option Addr} {c0 d0 c3 c4 c5:Nat} {s:Vc.Sp} (h:RefAt w v A0 B0 A3 A4 A5 c0 d0 c3 c4 c5 s) (hok:VOk s) (A:Option Addr) (c:Nat) (ids:List Int) (hr:Kd.C (Kd.int .i64) w A ids.length ids) (hc:ids.length≤c) (hl:ids.length≤10000) (hb:badF s ids=none) :
  Calls Tryz.prog 36 #[vV A0 B0 A3 A4 A5 c0 d0 c3 c4 c5 (tabOf s).1 s,.slice A ids.length c] w fun e w'=>∃ v0:Value,e=.returned v0/\Kd.R (Kd.int .i64) 3 w' w.heap.size (fun _=>True) v0 (itL s ids)/\Below w.heap.size w w':=by
 have ht:=h.tab
 exact ligatureref10_Vocab_Items.calls _ A0 c0 _ B0 d0 _ A4 c4 s.C A5 c5 s.J A3 c3 s.X A c ids _ w ht.b ht.hb ht.m ht.hm (Kd.R_reads' h.C).2.2 (Kd.R_reads' h.C).2.1 (Kd.R_reads' h.J).2.2 (Kd.R_reads' h.J).2.1 (Kd.R_reads' h.X).2.2 (Kd.R_reads' h.X).2.1 hr hc (items_some s hok ids hl hb)
theorem itemsOf_len {s:Sp} (h:VOk s) (id:Int):(itemsOf s id).length≤64:=by
 unfold itemsOf
 split
 ·simp
 ·rw[bytesI_len];exact byt_small (small_of h) id
theorem VocAt.good {w:World} {v:Nat} {s:Sp} (h:VocAt w v s):Mk.GoodS s.X:=by
 obtain⟨_,_,w0,pt,pb,pm,h1,h2,h3,h4,h5,h6,h7,h8⟩:=h
 exact h5.goodS
end Go.Proofs.YtkffhgiiejbnaaaGreat.Rt
