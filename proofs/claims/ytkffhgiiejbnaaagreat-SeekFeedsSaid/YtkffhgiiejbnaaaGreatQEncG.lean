import Derived.Test.YtkffhgiiejbnaaaGreatQEncF
set_option maxRecDepth 100000
set_option maxHeartbeats 400000
set_option linter.unusedVariables false
set_option linter.unusedSimpArgs false
set_option linter.unnecessarySimpa false
namespace Go.Proofs.YtkffhgiiejbnaaaGreat.En
open Go.Shelf Go.RowKit YtkffhgiiejbnaaaGreatW.PrintWords YtkffhgiiejbnaaaGreatW.PrintLast YtkffhgiiejbnaaaGreatW.PrintMore Rf Aid Mp Hp Bn Tk Vc Rg Go.Proofs.YtkffhgiiejbnaaaGreat.Fn
def pcsL (s:Sp):Nat->List Int->List (List Int)
 | 0,_=>[]
 | f+1,xs=>if xs=[] then [] else xs.take (cutN s xs)::pcsL s f (xs.drop (cutN s xs))
theorem pcsF_map (s:Sp):∀ (f:Nat) (A:Option Addr) (c:Nat) (xs:List Int),(pcsF s f A c xs).map (·.2)=pcsL s f xs
 | 0,_,_,_=>rfl
 | f+1,A,c,xs=>by
  unfold pcsF pcsL
  by_cases h0:xs=[]
  ·rw[if_pos h0,if_pos h0];rfl
  ·rw[if_neg h0,if_neg h0,List.map_cons,pcsF_map s f]
def tokL (s:Sp) (xs:List Int):List Int:=(pcsL s xs.length xs).flatMap (pieceT s)
theorem tokP_eq (s:Sp) (A:Option Addr) (c:Nat) (xs:List Int):tokP s (pcsF s xs.length A c xs)=tokL s xs:=by
 unfold tokP tokL
 rw[←pcsF_map s xs.length A c xs,List.flatMap_map]
def wrongF (s:Sp) (xs:List Int):Option Nat:=xs.findIdx? (fun n=>!rightP s n)
theorem wrongF_none {s:Sp} {xs:List Int} (h:wrongF s xs=none):∀ x∈xs,rightP s x=true:=by
 intro x hx
 have:=List.findIdx?_eq_none_iff.1 h x hx
 simpa using this
def itemsE (s:Sp) (xs:List Int):List Int × Int × Int :=
 if 4000<xs.length then ([],0,3) else match wrongF s xs with|some i=>([],(i:Int),2)|none=>(tokL s xs,(xs.length:Int),0)
theorem cloItems {W:World} {b v:Nat} {s:Sp} (hv:VocAt W v s) (hc:W.cell? ⟨b,0,none⟩=some (.pointer (some ⟨v,0,none⟩))) (n:Int) :
  Calls Tryz.prog 60 (#[encI n]++#[.pointer (some ⟨b,0,none⟩)]) W fun e W'=>e=.returned (.bool (!rightP s n))/\Below W.heap.size W W':=by
 have H:=As.mk hv
 clear hv
 unfold encI
 show Calls Tryz.prog 60 #[.int .i64 n,.pointer (some ⟨b,0,none⟩)] W _
 go_enter Tryz.func60,Tryz.ntmps60
 go_wp2_with (go_at_call 56;refine(right_any H.out n).mono ?_;rintro e w1 ⟨rfl,rfl⟩)
 go_ret
 exact⟨rfl,Below.refl _ _⟩
theorem box_of (w:World) (v:Value) (t:Nat):(w.alloc (.cells #[v] t (0,0))).cell? ⟨w.heap.size,0,none⟩=some v:=cell_of0 (Go.MapKept.heap_alloc w (.cells #[v] t (0,0))).1
theorem items_any {w:World} {v:Nat} {s:Sp} (hv:VocAt w v s) (hs:SpOk s) {A:Option Addr} {c:Nat} {xs:List Int} (hr:Kd.C (Kd.int .i64) w A xs.length xs) (hc:xs.length≤c) (hl:xs.length≤200000000) :
  Calls Tryz.prog 18 #[.pointer (some ⟨v,0,none⟩),.slice A xs.length c] w fun e w'=>∃ sv,e=.returned (.tuple #[sv,.int .i64 (itemsE s xs).2.1,.int .i64 (itemsE s xs).2.2])/\Kd.R (Kd.int .i64) 3 w' w.heap.size (fun _=>True) sv (itemsE s xs).1/\Below w.heap.size w w':=by
 have HB:=As.mk (below_alloc (Below.refl w.heap.size w) (.cells #[.pointer (some ⟨v,0,none⟩)] 30))
 have c0:=box_of w (.pointer (some ⟨v,0,none⟩)) 30
 have b0:=blk_lt (Go.MapKept.heap_alloc w (.cells #[.pointer (some ⟨v,0,none⟩)] 30 (0,0))).1
 have HL:=As.mk hl
 have HC:=As.mk hc
 have HS:=As.mk hs
 by_cases hgt:4000<xs.length
 ·have HE:=As.mk (show itemsE s xs=([],0,3) by unfold itemsE;rw[if_pos hgt])
  have hg:(4000:Int)<(xs.length:Int):=Z1
  rw[HE.out]
  clear hv hs hr hc hl
  go_enter Tryz.func18,Tryz.ntmps18
  go_wp2
  go_ret3
  exact⟨_,rfl,Kd.R_nil _ _ _ _ _,HB.out⟩
 ·have hg:¬ (4000:Int)<(xs.length:Int):=by omega
  have hi:=idxI A c xs 60 #[.pointer (some ⟨w.heap.size,0,none⟩)] (fun n=>!rightP s n) (enters_of Tryz.func60 (Z15) rfl) (w.alloc (.cells #[.pointer (some ⟨v,0,none⟩)] 30)) (Kd.C_below hr HB.out) (Z1)
   (fun W hW x hx=>cloItems (hv.below (HB.out.trans (hW.mono HB.out.size))) (pw_cell_below hW c0) x)
  have HI:=As.mk hi
  have HR:=As.mk hr
  have HV:=As.mk hv
  cases hw:wrongF s xs with
  | some i =>
   have HE:=As.mk (show itemsE s xs=([],(i:Int),2) by unfold itemsE;rw[if_neg hgt,hw])
   unfold wrongF at hw
   rw[hw]at HI
   unfold ix at HI
   simp only at HI
   rw[HE.out]
   have hi0:¬ (i:Int)<0:=Z1
   clear hv hs hr hc hl hi hw
   go_enter Tryz.func18,Tryz.ntmps18
   go_wp2_with (go_at_call 59;refine HI.out.mono ?_;rintro e w1 ⟨rfl,hb⟩;have HB1:=As.mk (HB.out.trans (hb.mono HB.out.size));clear hb)
   go_ret3
   exact⟨_,rfl,Kd.R_nil _ _ _ _ _,HB1.out⟩
  | none =>
   have HE:=As.mk (show itemsE s xs=(tokL s xs,(xs.length:Int),0) by unfold itemsE;rw[if_neg hgt,hw])
   have HRI:=As.mk (wrongF_none hw)
   unfold wrongF at hw
   rw[hw]at HI
   unfold ix at HI
   simp only at HI
   rw[HE.out]
   clear hv hs hr hc hl hi hw
   go_enter Tryz.func18,Tryz.ntmps18
   go_wp2_with (first
    | (go_at_call 59;refine HI.out.mono ?_;rintro e w1 ⟨rfl,hb⟩;have c1:=pw_cell_below hb c0;have HB1:=As.mk (HB.out.trans (hb.mono HB.out.size));clear hb)
    | (go_at_call 61;refine(tokens_any (HV.out.below HB1.out) HS.out (Kd.C_below HR.out HB1.out) HC.out HRI.out HL.out).mono ?_;rintro e w2 ⟨sv,rfl,hr2,hb2⟩;rw[tokP_eq]at hr2;have HR2:=As.mk (Kd.R_lower hr2 HB1.out.size);have HB2:=As.mk (HB1.out.trans (hb2.mono HB1.out.size));clear hr2 hb2))
   go_ret3
   exact⟨_,rfl,HR2.out,HB2.out⟩
end Go.Proofs.YtkffhgiiejbnaaaGreat.En
