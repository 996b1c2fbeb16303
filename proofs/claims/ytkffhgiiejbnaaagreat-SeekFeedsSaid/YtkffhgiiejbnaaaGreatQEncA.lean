import Derived.Test.YtkffhgiiejbnaaaGreatQChainK
import Derived.Test.YtkffhgiiejbnaaaGreatQVocO
import Derived.Test.YtkffhgiiejbnaaaGreatQBndA
set_option maxRecDepth 100000
set_option maxHeartbeats 400000
set_option linter.unusedVariables false
set_option linter.unusedSimpArgs false
set_option linter.unnecessarySimpa false
namespace Go.Proofs.YtkffhgiiejbnaaaGreat.En
open Go.Shelf Go.RowKit YtkffhgiiejbnaaaGreatW.PrintWords YtkffhgiiejbnaaaGreatW.PrintLast YtkffhgiiejbnaaaGreatW.PrintMore Rf Aid Mp Hp Bn Tk Vc
theorem bounds_any {w:World} {v:Nat} {s:Sp} (h:VocAt w v s):Calls Tryz.prog 127 #[.pointer (some ⟨v,0,none⟩)] w fun e w'=>∃ pb,e=.returned (.pointer (some ⟨pb,0,none⟩))/\BndAt w pb (cls s.C) (joinB s.J)/\w=w':=by
 obtain⟨_,_,w0,pt,pb,pm,h1,h2,h3,h4,h5,h6,h7,h8⟩:=h
 have H:=As.mk (h4.next h2)
 clear h5 h4 h3 h2 h1 h6 h8
 go_enter Tryz.func127,Tryz.ntmps127
 go_wp2
 go_ret
 exact⟨pb,rfl,H.out,rfl⟩
theorem table_any {w:World} {v:Nat} {s:Sp} (h:VocAt w v s):Calls Tryz.prog 131 #[.pointer (some ⟨v,0,none⟩)] w fun e w'=>∃ pt,e=.returned (.pointer (some ⟨pt,0,none⟩))/\TabAt w pt (tabOf s).1/\w=w':=by
 obtain⟨_,_,w0,pt,pb,pm,h1,h2,h3,h4,h5,h6,h7,h8⟩:=h
 have H:=As.mk (h3.below h2)
 clear h5 h4 h3 h2 h1 h7 h8
 go_enter Tryz.func131,Tryz.ntmps131
 go_wp2
 go_ret
 exact⟨pt,rfl,H.out,rfl⟩
theorem good_of (s:Sp):Tk.Good (tabOf s).1:=Good.new Good.begin_
def cutP (s:Sp) (a b:Nat):Bool:=decide (cls s.C a≠cls s.C b) && !joinB s.J (cls s.C a).toNat (cls s.C b).toNat
theorem cls_range {s:Sp} (h:SpOk s) (b:Nat):0≤cls s.C b/\cls s.C b<16:=cls_ok (Z31) h.hC b
theorem cuts_raw {w:World} {p:Nat} {C:Nat->Int} {J:Nat->Nat->Bool} (h:BndAt w p C J) (a b x y:Nat) (ha:a<256) (hb:b<256) (hx:C a=(x:Int)) (hy:C b=(y:Int)) (hx16:x<16) (hy16:y<16) :
  Calls Tryz.prog 128 #[.pointer (some ⟨p,0,none⟩),.int .u8 (a:Int),.int .u8 (b:Int)] w fun e w'=>e=.returned (.bool (decide ((x:Int)≠(y:Int)) && !J x y))/\Below w.heap.size w w':=by
 have c0:=h.cell a ha
 have c1:=h.cell b hb
 have c2:=h.join x y hx16 hy16
 rw[hx]at c0
 rw[hy]at c1
 have haI:(a:Int)<256:=Z1
 have hbI:(b:Int)<256:=Z1
 have hxI:(x:Int)<16:=Z1
 have hyI:(y:Int)<16:=Z1
 have ha0:(0:Int)≤(a:Int):=Z1
 have hb0:(0:Int)≤(b:Int):=Z1
 have hx0:(0:Int)≤(x:Int):=Z1
 have hy0:(0:Int)≤(y:Int):=Z1
 have H:=As.mk h
 clear h hx hy
 generalize J x y=q at *
 by_cases e:x=y
 ·subst e
  have e1:((x:Int) != (x:Int))=false:=by simp
  rw[show (decide ((x:Int)≠(x:Int)) && !q)=false by simp]
  go_enter Tryz.func128,Tryz.ntmps128
  go_wp2
  go_quiet (fail)
  go_wp2
  go_ret
  exact⟨rfl,pw_below_drewN (Below.refl _ _) _⟩
 ·have e1:((x:Int) != (y:Int))=true:=by simpa using (show ¬ (x:Int)=(y:Int) from Z1)
  rw[show (decide ((x:Int)≠(y:Int)) && !q)=!q by rw[show decide ((x:Int)≠(y:Int))=true by simpa using (show ¬ (x:Int)=(y:Int) from Z1)];rfl]
  clear e
  go_enter Tryz.func128,Tryz.ntmps128
  go_wp2
  go_quiet (fail)
  go_wp2
  go_ret
  exact⟨rfl,pw_below_drewN (Below.refl _ _) _⟩
theorem cuts_any {w:World} {p:Nat} {s:Sp} (hs:SpOk s) (h:BndAt w p (cls s.C) (joinB s.J)) (a b:Nat) (ha:a<256) (hb:b<256) :
  Calls Tryz.prog 128 #[.pointer (some ⟨p,0,none⟩),.int .u8 (a:Int),.int .u8 (b:Int)] w fun e w'=>e=.returned (.bool (cutP s a b))/\Below w.heap.size w w':=by
 obtain⟨x0,x1⟩:=cls_range hs a
 obtain⟨y0,y1⟩:=cls_range hs b
 obtain⟨x,hx⟩:=Int.eq_ofNat_of_zero_le x0
 obtain⟨y,hy⟩:=Int.eq_ofNat_of_zero_le y0
 have:=cuts_raw h a b x y ha hb hx hy (Z1) (Z1)
 unfold cutP
 rw[hx,hy,Int.toNat_natCast,Int.toNat_natCast]
 exact this
def rightP (s:Sp) (n:Int):Bool:=decide (0≤n/\n<256) || decide (n<0/\-(s.X.length:Int)≤n)
theorem right_any {w:World} {v:Nat} {s:Sp} (h:VocAt w v s) (n:Int):Calls Tryz.prog 56 #[.pointer (some ⟨v,0,none⟩),.int .i64 n] w fun e w'=>e=.returned (.bool (rightP s n))/\w=w':=by
 have H:=As.mk h
 clear h
 by_cases h0:0≤n
 ·have hn0:¬ n<0:=by omega
  by_cases h1:n<256
  ·rw[show rightP s n=true by unfold rightP;simp[h0,h1]]
   go_enter Tryz.func56,Tryz.ntmps56
   go_wp2
   go_ret
   exact⟨rfl,rfl⟩
  ·rw[show rightP s n=false by unfold rightP;simp[h1];omega]
   go_enter Tryz.func56,Tryz.ntmps56
   go_wp2
   go_ret
   exact⟨rfl,rfl⟩
 ·have hn0:n<0:=by omega
  rw[show rightP s n=decide (-(s.X.length:Int)≤n) by unfold rightP;simp[h0,hn0]]
  obtain⟨A,c,hl⟩:∃ A c,True:=⟨0,0,trivial⟩
  have hfew:(s.X.length:Int)≤32:=by
   obtain⟨_,_,w0,pt,pb,pm,h1,h2,h3,h4,h5,h6,h7,h8⟩:=H.out
   have:=h5.few;omega
  have hs0:(0:Int)≤(s.X.length:Int):=Z1
  clear hl A c
  go_enter Tryz.func56,Tryz.ntmps56
  go_wp2_with (first
   | (go_at_call 67;refine(marks_any H.out).mono ?_;rintro e w1 ⟨pm,rfl,hm,rfl⟩;obtain⟨_,_,_,_,⟨A,c,hl,_,_⟩,_⟩:=hm)
   | (go_at_call 80;refine(Mk.len_any pm s.X.length c A _ hl).mono ?_;rintro e w2 ⟨rfl,rfl⟩))
  go_ret
  exact⟨rfl,rfl⟩
end Go.Proofs.YtkffhgiiejbnaaaGreat.En
