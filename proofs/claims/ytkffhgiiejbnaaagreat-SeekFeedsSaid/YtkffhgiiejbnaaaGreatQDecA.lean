import Derived.Test.YtkffhgiiejbnaaaGreatQVocC
import Derived.Test.YtkffhgiiejbnaaaGreatQ01
set_option maxRecDepth 100000
set_option maxHeartbeats 400000
set_option linter.unusedVariables false
set_option linter.unusedSimpArgs false
namespace Go.Proofs.YtkffhgiiejbnaaaGreat.Dc
open Go.Shelf Go.RowKit YtkffhgiiejbnaaaGreatW.PrintWords YtkffhgiiejbnaaaGreatW.PrintLast YtkffhgiiejbnaaaGreatW.PrintMore Rf Aid Mp Hp Tk Vc
theorem itF_err (s:Sp):∀ (l:List Int) (n:Nat) (xs:List Int),(itF s l n xs).2.2=0\/((itF s l n xs).2.2=4/\(itF s l n xs).1=[])
 | [],n,xs=>.inl rfl
 | id::l,n,xs=>by
  unfold itF
  split
  ·exact itF_err s l _ _
  ·exact .inr ⟨rfl,rfl⟩
theorem itF_len (s:Sp) (h:∀ id,(itemsOf s id).length≤64):∀ (l:List Int) (n:Nat) (xs:List Int),(itF s l n xs).1.length≤xs.length+64 * l.length
 | [],n,xs=>by simp[itF]
 | id::l,n,xs=>by
  unfold itF
  split
  ·have h1:=itF_len s h l (n+1) (xs++itemsOf s id)
   have h2:=h id
   rw[List.length_append]at h1
   rw[List.length_cons]
   omega
  ·simp
def rendS (X:List Mk.Sp) (xs:List Int):ByteArray:=match Mk.rendF (Mk.hasP X) xs with|some l=>⟨l.toArray⟩|none=>⟨#[]⟩
theorem rendV_eq (X:List Mk.Sp) (xs:List Int):Mk.rendV (Mk.rendF (Mk.hasP X) xs)=.tuple #[.string (rendS X xs),.bool (Mk.rendF (Mk.hasP X) xs).isSome]:=by
 unfold Mk.rendV rendS
 cases Mk.rendF (Mk.hasP X) xs <;> rfl
theorem used_below {w:World} {v:Nat} {w1 w2:World} (h:Used w v w1) (hb:Below w1.heap.size w1 w2):Used w v w2:=by
 obtain⟨m,hm⟩:=h
 exact⟨m,hm.trans (hb.mono (by rw[←set_size w ⟨v,13,none⟩ (.int .i64 m)];exact hm.size))⟩
def textF (s:Sp) (ids:List Int):ByteArray:=if (itF s ids 0 []).2.2=0 then rendS s.X (itF s ids 0 []).1 else ⟨#[]⟩
theorem text_any {w:World} {v:Nat} {s:Sp} (h:VocAt w v s) (A:Option Addr) (c:Nat) (ids:List Int) (hr:∀ m:Int,Kd.C (Kd.int .i64) (w.setCell ⟨v,13,none⟩ (.int .i64 m)) A ids.length ids) (hl:ids.length≤4000) :
  Calls Tryz.prog 76 #[.pointer (some ⟨v,0,none⟩),.slice A ids.length c] w fun e w'=>e=.returned (.tuple #[.string (textF s ids),.int .i64 (itF s ids 0 []).2.1,.int .i64 (itF s ids 0 []).2.2])/\VocAt w' v s/\Used w v w':=by
 have HI:=As.mk (items_any h A c ids hr (Z1))
 have hlen:=itF_len s (items_len h) ids 0 []
 have hle:¬ (4000:Int)<(ids.length:Int):=Z1
 have he:=itF_err s ids 0 []
 clear h hr
 unfold textF
 generalize itF s ids 0 []=R at *
 obtain⟨xs,n,e0⟩:=R
 simp only at *
 have HL:=As.mk (show xs.length≤1000000000000 by simp at hlen;omega)
 clear hlen
 rcases he with rfl|⟨rfl,rfl⟩
 ·rw[if_pos rfl]
  generalize hSS:rendS s.X xs=S
  have HSS:=As.mk hSS
  clear hSS
  go_enter Tryz.func76,Tryz.ntmps76
  go_wp2_with (first
   | (go_at_call 29;refine HI.out.mono ?_;rintro e w1 ⟨sv,rfl,ho,hv,hu⟩;obtain⟨A2,c2,rfl⟩:=Kd.R_slice ho;have HC:=As.mk (Kd.R_reads' ho).2.2;have HV:=As.mk hv;have HU:=As.mk hu;clear ho hv hu HI)
   | (go_at_call 67;refine(marks_any HV.out).mono ?_;rintro e w2 ⟨pm,rfl,hp,rfl⟩;have HP:=As.mk hp;clear hp)
   | (go_at_call 105;have hren:=Mk.render_any HP.out A2 c2 xs HC.out HL.out;rw[rendV_eq,HSS.out]at hren;generalize (Mk.rendF (Mk.hasP s.X) xs).isSome=bS at *;refine hren.mono ?_;clear hren;rintro e w3 ⟨rfl,hb⟩;have HB:=As.mk hb;clear hb))
  go_ret3
  exact⟨rfl,HV.out.below HB.out,used_below HU.out HB.out⟩
 ·rw[if_neg (Z31)]
  go_enter Tryz.func76,Tryz.ntmps76
  go_wp2_with (go_at_call 29;refine HI.out.mono ?_;rintro e w1 ⟨sv,rfl,ho,hv,hu⟩;have HV:=As.mk hv;have HU:=As.mk hu;clear ho hv hu HI)
  go_ret3
  exact⟨rfl,HV.out,HU.out⟩
end Go.Proofs.YtkffhgiiejbnaaaGreat.Dc
