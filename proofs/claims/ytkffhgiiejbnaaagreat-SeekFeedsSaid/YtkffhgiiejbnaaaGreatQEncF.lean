import Derived.Sort.LoopGhostIn
import Derived.Test.YtkffhgiiejbnaaaGreatQEncA
import Derived.Test.YtkffhgiiejbnaaaGreatQRng
import Derived.Test.YtkffhgiiejbnaaaGreatQRngB
import Derived.Test.YtkffhgiiejbnaaaGreatQFun
import Derived.Test.YtkffhgiiejbnaaaGreatQClo
set_option maxRecDepth 100000
set_option maxHeartbeats 1000000
set_option linter.unusedVariables false
set_option linter.unusedSimpArgs false
set_option linter.unnecessarySimpa false
namespace Go.Proofs.YtkffhgiiejbnaaaGreat.En
open Go.Shelf Go.RowKit YtkffhgiiejbnaaaGreatW.PrintWords YtkffhgiiejbnaaaGreatW.PrintLast YtkffhgiiejbnaaaGreatW.PrintMore Rf Aid Mp Hp Bn Tk Vc
theorem rd_at {w:World} {A:Option Addr} {n:Nat} {xs:List Int} (h:Kd.C (Kd.int .i64) w A n xs) {i:Nat} {a:Int} (hi:xs[i]?=some a):∃ ad,A=some ad/\w.cell? (ad.add i)=some (.int .i64 a):=by
 obtain⟨hl,hx⟩:=List.getElem?_eq_some_iff.1 hi
 obtain⟨ad,e,hc⟩:=Kd.at_int h (i:Int) (Z1) (Z3)
 rw[Int.toNat_natCast,rdI hl,hx]at hc
 exact⟨ad,e,hc⟩
theorem rd_ad {w:World} {ad:Addr} {n:Nat} {xs:List Int} (h:Kd.C (Kd.int .i64) w (some ad) n xs) {i:Nat} {a:Int} (hi:xs[i]?=some a):w.cell? (ad.add i)=some (.int .i64 a):=by
 obtain⟨ad',e,hc⟩:=rd_at h hi
 injection e with e
 subst e
 exact hc
theorem str_size (xs:List Int):(strOfNums xs).size=xs.length:=strOfNums_size xs
theorem info_u8:(Tryz.prog.info? 5).map (fun i=>(i.zero,i.size,i.bytes))=some (some (.int .u8 0),1,1):=Z15
theorem make_run (n:Nat) (h:n≤1000000000) (W:World):(Instr.makeSlice 109 (.int .i64 0) (.int .i64 (n:Int))).run Tryz.prog W=.ok (.slice (some ⟨W.heap.size,0,none⟩) 0 n) (W.alloc (.cells (madeCells #[.int .u8 0] n) 5)):=by
 obtain⟨i,hi,he⟩:=Option.map_eq_some_iff.1 info_u8
 injection he with h1 he
 injection he with h2 h3
 have:=run_make (P:=Tryz.prog) W 109 5 i (.int .u8 0) Tryz.underlying109 hi h1 .i64 .i64 0 (n:Int) (Z1) (Z1) (by rw[h3];omega) (Z1)
 rw[h2,Nat.mul_one,Int.toNat_natCast]at this
 exact this
theorem make_row (n:Nat) (h:n≤1000000000) (W:World):Kd.R (Kd.int .u8) 5 (W.alloc (.cells (madeCells #[.int .u8 0] n) 5)) W.heap.size (fun _=>True) (.slice (some ⟨W.heap.size,0,none⟩) 0 n) [] :=
 ⟨fun _ _=>trivial,[],⟨rfl,.inr ⟨W.heap.size,n,_,rfl,Nat.le_refl _,(Go.MapKept.heap_alloc W _).1,Nat.zero_le _,by show n≤9223372036854775807;omega,by show (madeCells #[.int .u8 0] n).size=n * 1;simp[madeCells],by simp⟩⟩,Reps.none _ _⟩
theorem text_of {w:World} {A:Option Addr} {c:Nat} {xs:List Int} (hr:Kd.C (Kd.int .i64) w A xs.length xs) (hb:∀ x∈xs,0≤x/\x<256) (hl:xs.length≤200000000) :
  Calls Tryz.prog 132 #[.slice A xs.length c] w fun e w'=>e=.returned (.string (strOfNums xs))/\Below w.heap.size w w':=by
 have HR:=As.mk hr
 have HBY:=As.mk hb
 have HLN:=As.mk hl
 have hmk:=make_run xs.length (Z1)
 have HMR:=As.mk (make_row xs.length (Z1) w)
 have HB:=As.mk (below_alloc (Below.refl w.heap.size w) (.cells (madeCells #[.int .u8 0] xs.length) 5))
 clear hr hb hl
 go_enter Tryz.func132,Tryz.ntmps132
 go_wp2_with fail
 clear hmk
 generalize w.alloc (.cells (madeCells #[.int .u8 0] xs.length) 5)=w1 at HMR HB ⊢
 go_loopg [3,11] xs.length (fun f v3 v11 w'=>∃ (i:Nat),v11=.int .i64 (i:Int)/\i≤xs.length/\As (xs.length≤i+f)/\As (Kd.R (Kd.int .u8) 5 w' w.heap.size (fun _=>True) v3 (xs.take i))/\As (Below w.heap.size w w'))
 case atStart=>exact⟨0,rfl,Nat.zero_le _,⟨Z1⟩,HMR,HB⟩
 case round =>
  clear HMR HB
  obtain⟨i,rfl,hi,HK,HO,HB⟩:=hrel
  by_cases hlt:i<xs.length
  ·obtain⟨f,rfl⟩:∃ f,gk=f+1:=⟨gk-1,Z65⟩
   have hltI:(i:Int)<(xs.length:Int):=Z1
   have hiB:(i:Int)≤200000000:=by have:=HLN.out;omega
   have hx:=List.getElem?_eq_getElem hlt
   have hxr:=HBY.out _ (List.getElem_mem hlt)
   have HT:=As.mk (show xs.take (i+1)=xs.take i++[xs[i]] by rw[List.take_succ_eq_append_getElem hlt])
   have HTL:=As.mk (show (xs.take i).length≤xs.length from Z8)
   generalize xs[i]=a at *
   have hw:IntKind.u8.wrap a=a:=by rw[IntKind.wrap_u8];omega
   obtain⟨ad,rfl,x0⟩:=rd_at (Kd.C_below HR.out HB.out) hx
   clear hx
   generalize hys:xs.take i=ys at *
   go_wp2_with ((with_reducible refine gate_builtin (b:=.append) (xs:=#[.tmp 15,.tmp 18]) rfl ?_);at_builtin;refine Kd.R_append (Kd.int .u8) (w0:=w) w.heap.size rfl (.tmp 15) (.tmp 18) 109 5 (.int .u8 0) 1 rfl Tryz.underlying109 info_u8 rfl (Z31) (Z1) _ ys a [.int .u8 a] (fun _=>True) (fun _=>False) rfl ?aX ?aP (fun _ hk=>hk.elim) ?aF ?aO ?aB ?aS ?aL ?_;(case aX=>exact Z66);(case aP=>exact rfl);(case aF=>exact Z32);(case aO=>exact(Z92));(case aB=>exact(Z20));(case aS=>exact Z177);(case aL=>(have:=HLN.out;have:=HTL.out;omega));intro v1 w1 ho hb hg hat;have HO_:=As.mk ho;have HB_:=As.mk hb;clear HO HB ho hb hg hat;have HO:=HO_;have HB:=HB_;clear HO_ HB_)
   go_roundg f
   case measure=>omega
   case rel=>exact⟨i+1,Z67,Z1,⟨Z65⟩,⟨by rw[HT.out];exact HO.out⟩,HB⟩
  ·obtain rfl:i=xs.length:=by omega
   have ho:=HO.out
   rw[List.take_length]at ho
   obtain⟨A1,c1,rfl⟩:=Kd.R_slice ho
   have hcv:=Kd.C_string (src:=109) (dst:=9) (c:=c1) Tryz.underlying109 Tryz.underlying5 Tryz.underlying9 (Kd.R_reads' ho).2.2
   clear ho hi HK HO
   go_wp2
   go_ret
   exact⟨rfl,HB.out⟩
def cutN (s:Sp):List Int->Nat
 | []=>0
 | [_]=>1
 | a::b::l=>if a<0\/b<0\/cutP s a.toNat b.toNat=true then 1 else 1+cutN s (b::l)
theorem cutN_le (s:Sp):∀ l:List Int,cutN s l≤l.length
 | []=>Nat.le_refl _
 | [_]=>Nat.le_refl _
 | a::b::l=>by
  unfold cutN
  split
  ·simp only[List.length_cons];omega
  ·have:=cutN_le s (b::l);simp only[List.length_cons]at *;omega
theorem cutN_pos (s:Sp) {l:List Int} (h:l≠[]):0<cutN s l:=by
 match l,h with
 | [_],_=>exact Nat.one_pos
 | a::b::l,_=>unfold cutN;split <;> omega
theorem rightP_byte {s:Sp} {a:Int} (h:rightP s a=true) (h0:0≤a):a<256:=by
 unfold rightP at h
 simp only[Bool.or_eq_true,decide_eq_true_eq]at h
 omega
theorem cut_any {w:World} {v:Nat} {s:Sp} (hv:VocAt w v s) (hs:SpOk s) {A:Option Addr} {c:Nat} {xs:List Int} (hr:Kd.C (Kd.int .i64) w A xs.length xs) (hne:xs≠[]) (hri:∀ x∈xs,rightP s x=true) (hl:xs.length≤200000000) :
  Calls Tryz.prog 93 #[.pointer (some ⟨v,0,none⟩),.slice A xs.length c] w fun e w'=>e=.returned (.int .i64 (cutN s xs:Int))/\Below w.heap.size w w':=by
 have HR:=As.mk hr
 have HV:=As.mk hv
 have HS:=As.mk hs
 have HRI:=As.mk hri
 have HLN:=As.mk hl
 have hpos:0<xs.length:=List.length_pos_iff.2 hne
 have h0x:=List.getElem?_eq_getElem hpos
 obtain⟨ad,rfl,z0⟩:=rd_at hr h0x
 have hposI:(0:Int)<(xs.length:Int):=Z1
 obtain⟨R,hR⟩:∃ R,cutN s xs=R:=⟨_,rfl⟩
 have HF0:=As.mk (show 0+cutN s (xs.drop 0)=R by rw[List.drop_zero,Nat.zero_add];exact hR)
 have HRB:=As.mk (show R≤xs.length by rw[←hR];exact cutN_le s xs)
 have HX0:=As.mk h0x
 have z0':w.cell? ad=some (.int .i64 xs[0]):=by simpa[Addr.add] using z0
 have HDC:=As.mk (List.drop_eq_getElem_cons hpos)
 rw[hR]
 clear hr hv hs hri hl h0x hR hne z0
 generalize xs[0]=a0 at *
 by_cases hneg:a0<0
 ·have HE:=As.mk (show R=1 by
   have h:=HF0.out
   rw[HDC.out]at h
   cases hd:xs.drop (0+1) with
   | nil=>rw[hd]at h;have:0+1=R:=h;omega
   | cons b l=>rw[hd]at h;unfold cutN at h;rw[if_pos (.inl hneg)]at h;omega)
  go_enter Tryz.func93,Tryz.ntmps93
  go_wp2
  go_ret
  exact⟨by rw[HE.out];rfl,Below.refl _ _⟩
 ·have ha0:¬ a0<0:=hneg
  go_enter Tryz.func93,Tryz.ntmps93
  go_wp2_with fail
  go_loopg [5] xs.length (fun f v5 w'=>∃ (i:Nat) (W:World) (a:Int),v5=.int .i64 ((i:Int)+1)/\i<xs.length/\As (W=w')/\As (xs.length≤i+1+f)/\As (i+cutN s (xs.drop i)=R)/\As (xs[i]?=some a/\0≤a)/\As (Below w.heap.size w W))
  case atStart=>exact⟨0,w,a0,rfl,hpos,⟨rfl⟩,⟨Z1⟩,HF0,⟨HX0.out,Z1⟩,⟨Below.refl _ _⟩⟩
  case round =>
   clear HF0 HX0 HDC
   obtain⟨i,W,a,rfl,hi,HW,HK,HF,HAA,HB⟩:=hrel
   have hW:=HW.out
   subst hW
   clear HW
   have hiB:(i:Int)≤200000000:=by have:=HLN.out;omega
   have hi0:(0:Int)≤(i:Int):=Z1
   have hi01:(0:Int)≤(i:Int)+1:=Z1
   by_cases hlt:i+1<xs.length
   ·obtain⟨f,rfl⟩:∃ f,gk=f+1:=⟨gk-1,Z65⟩
    have hltI:(i:Int)+1<(xs.length:Int):=Z1
    have hiI:(i:Int)<(xs.length:Int):=Z1
    obtain⟨b,hb⟩:∃ b,xs[i+1]?=some b:=⟨_,List.getElem?_eq_getElem hlt⟩
    have HX:=As.mk HAA.out.1
    have ha:=HAA.out.2
    have HY:=As.mk hb
    have HRA:=As.mk (HRI.out a (List.mem_of_getElem? HAA.out.1))
    have HRBB:=As.mk (HRI.out b (List.mem_of_getElem? hb))
    have HDR:=As.mk (show xs.drop i=a::b::xs.drop (i+1+1) by
     obtain⟨g1,g2⟩:=List.getElem?_eq_some_iff.1 HAA.out.1
     obtain⟨g3,g4⟩:=List.getElem?_eq_some_iff.1 hb
     rw[List.drop_eq_getElem_cons g1,List.drop_eq_getElem_cons g3,g2,g4])
    have HDR1:=As.mk (show xs.drop (i+1)=b::xs.drop (i+1+1) by
     obtain⟨g3,g4⟩:=List.getElem?_eq_some_iff.1 hb
     rw[List.drop_eq_getElem_cons g3,g4])
    clear hb
    by_cases hbn:b<0
    ·have HE:=As.mk (show R=i+1 by have h:=HF.out;rw[HDR.out]at h;unfold cutN at h;rw[if_pos (.inr (.inl hbn))]at h;omega)
     go_wp2_with fail
     refine start_ (n:=21) (S:=fun w'=>Below w.heap.size W w') (ds:=[]) #[false,false,false,false,false,false,false,false,false,false,false,false,false,false,false,false,false,false,false,false,false] (Z15) rfl rfl (below_drew1 (Below.refl _ _)) (fun hHeld=>?_)
     have HW9:=As.mk hHeld;clear hHeld;generalize W.drew=w9 at HW9 ⊢;have hHeld:=HW9.out
     refine pI 0 (some 16) (bs 21 1) ?_
     refine pI 1 (some 17) (bs 21 3) ?_
     refine pI 2 (some 18) (bs 21 7) ?_
     refine tI 3 (some 19) (bs 21 15) rfl (Z142) hHeld ?_
     refine pI 4 (some 20) (bs 21 31) ?_
     refine pI 5 (some 21) (bs 21 63) ?_
     refine pO 6 (some 22) (bs 21 127) ?_
     refine pO 7 (some 23) (bs 21 255) ?_
     refine pO 8 (some 24) (bs 21 511) ?_
     refine pO 9 (some 25) (bs 21 1023) ?_
     refine pO 10 (some 26) (bs 21 2047) ?_
     refine pO 11 (some 27) (bs 21 4095) ?_
     refine pO 14 (some 30) (bs 21 20479) ?_
     refine pO 15 (some 31) (bs 21 53247) ?_
     refine pO 16 (some 32) (bs 21 118783) ?_
     refine pO 12 (some 28) (bs 21 122879) ?_
     refine pO 13 (some 29) (bs 21 131071) ?_
     refine pO 17 (some 33) (bs 21 262143) ?_
     refine pO 18 (some 34) (bs 21 524287) ?_
     refine pO 19 (some 35) (bs 21 1048575) ?_
     refine pI 20 (some 36) (bs 21 2097151) ?_
     refine done_ (Z15) ?_
     go_wp2
     go_ret
     exact⟨by rw[HE.out];rfl,HB.out.trans HW9.out⟩
    ·have hb0:0≤b:=by omega
     have hbn2:¬ b<0:=hbn
     have hdb:decide (b<0)=false:=by simpa using hb0
     have haw:IntKind.u8.wrap a=a:=by rw[IntKind.wrap_u8];have:=rightP_byte HRA.out ha;omega
     have hbw:IntKind.u8.wrap b=b:=by rw[IntKind.wrap_u8];have:=rightP_byte HRBB.out hb0;omega
     have HCU:=As.mk (fun(W':World) (pb:Nat) (h:BndAt W' pb (cls s.C) (joinB s.J))=>by
      have hc:=cuts_any HS.out h a.toNat b.toNat (by have:=rightP_byte HRA.out ha;omega) (by have:=rightP_byte HRBB.out hb0;omega)
      rw[Int.toNat_of_nonneg ha,Int.toNat_of_nonneg hb0]at hc
      exact hc)
     have hsub:IntKind.i64.wrap ((i:Int)+1-1)=(i:Int):=by rw[i64_w];exact(w64 (Z1) (Z1)).trans (Z1)
     have hsub2:IntKind.i64.wrap (i:Int)=(i:Int):=Z184
     go_wp2_with fail
     refine start_ (n:=21) (S:=fun w'=>Below w.heap.size W w') (ds:=[]) #[false,false,false,false,false,false,false,false,false,false,false,false,false,false,false,false,false,false,false,false,false] (Z15) rfl rfl (below_drew1 (Below.refl _ _)) (fun hHeld=>?_)
     have HW9:=As.mk hHeld;clear hHeld;generalize W.drew=w9 at HW9 ⊢;have hHeld:=HW9.out
     refine pI 0 (some 16) (bs 21 1) ?_
     refine pI 1 (some 17) (bs 21 3) ?_
     refine pI 2 (some 18) (bs 21 7) ?_
     refine tI 3 (some 19) (bs 21 15) rfl (Z142) hHeld ?_
     refine pI 4 (some 20) (bs 21 31) ?_
     refine pI 5 (some 21) (bs 21 63) ?_
     refine pI 6 (some 22) (bs 21 127) ?_
     refine pI 8 (some 24) (bs 21 383) ?_
     refine pI 9 (some 25) (bs 21 895) ?_
     refine pI 10 (some 26) (bs 21 1919) ?_
     refine pI 11 (some 27) (bs 21 3967) ?_
     refine pI 14 (some 30) (bs 21 20351) ?_
     refine pI 15 (some 31) (bs 21 53119) ?_
     refine pI 16 (some 32) (bs 21 118655) ?_
     refine tI 12 (some 28) (bs 21 122751) rfl (Z142) hHeld ?_
     refine pI 13 (some 29) (bs 21 130943) ?_
     refine tI 17 (some 33) (bs 21 262015) rfl (Z142) hHeld ?_
     refine pI 18 (some 34) (bs 21 524159) ?_
     refine one_ (i:=7) (N:=some 23) (bs 21 524287) rfl rfl (Z15) (Z31) (fun K hK=>?_)
     refine goes_ Tryz.func127 (Z15) rfl #[.pointer (some ⟨v,0,none⟩)] (by rfl) rfl rfl (Z101) ?_
     refine(bounds_any (HV.out.below (HB.out.trans HW9.out))).mono ?_
     rintro e w10 ⟨pb,rfl,hbd,rfl⟩
     have HBD:=As.mk hbd
     clear hbd
     refine⟨_,rfl,?_⟩
     refine hK.out _ _ HW9.out (fun _=>?_)
     clear hK K
     refine nI ?_
     refine one_ (i:=19) (N:=some 35) (bs 21 1048575) rfl rfl (Z15) (Z31) (fun K hK=>?_)
     refine goes_ Tryz.func128 (Z15) rfl #[.pointer (some ⟨pb,0,none⟩),.int .u8 a,.int .u8 b] (by rfl) rfl rfl (Z101) ?_
     refine(HCU.out _ pb HBD.out).mono ?_
     rintro e w10 ⟨rfl,hb10⟩
     have HW10:=As.mk (HW9.out.trans (hb10.mono (HB.out.trans HW9.out).size))
     clear hb10
     refine⟨_,rfl,?_⟩
     refine hK.out _ _ HW10.out (fun _=>?_)
     clear hK K hHeld
     refine nI ?_
     refine pI 20 (some 36) (bs 21 2097151) ?_
     refine done_ (Z15) ?_
     clear hsub hsub2 haw hbw
     cases hcut:cutP s a.toNat b.toNat with
     | true =>
      have HE:=As.mk (show R=i+1 by have h:=HF.out;rw[HDR.out]at h;unfold cutN at h;rw[if_pos (.inr (.inr hcut))]at h;omega)
      clear hcut
      go_wp2
      go_ret
      exact⟨by rw[HE.out];rfl,HB.out.trans HW10.out⟩
     | false =>
      have HE:=As.mk (show i+1+cutN s (xs.drop (i+1))=R by have h:=HF.out;rw[HDR.out]at h;unfold cutN at h;rw[if_neg (by rw[hcut];rintro (h1|h1|h1) <;> first|omega|cases h1)]at h;rw[HDR1.out];omega)
      clear hcut
      go_wp2
      go_roundg f
      case measure=>omega
      case rel=>exact⟨i+1,_,b,Z67,Z1,⟨rfl⟩,⟨Z65⟩,HE,⟨HY.out,hb0⟩,⟨HB.out.trans HW10.out⟩⟩
   ·have HE:=As.mk (show R=xs.length by
     have h:=HF.out
     obtain⟨g1,g2⟩:=List.getElem?_eq_some_iff.1 HAA.out.1
     rw[List.drop_eq_getElem_cons g1,List.drop_eq_nil_of_le (Z1)]at h
     have:i+1=R:=h
     omega)
    have hltI:¬ (i:Int)+1<(xs.length:Int):=Z1
    go_wp2
    go_ret
    exact⟨by rw[HE.out];rfl,HB.out⟩
end Go.Proofs.YtkffhgiiejbnaaaGreat.En
namespace Go.Proofs.YtkffhgiiejbnaaaGreat.En
open Go.Shelf Go.RowKit YtkffhgiiejbnaaaGreatW.PrintWords YtkffhgiiejbnaaaGreatW.PrintLast YtkffhgiiejbnaaaGreatW.PrintMore Rf Aid Mp Hp Bn Tk Vc Rg
attribute [local go_sem] Oper.semAt_some
def pcsF (s:Sp):Nat->Option Addr->Nat->List Int->List (Option Addr × List Int)
 | 0,_,_,_=>[]
 | f+1,A,c,xs=>if xs=[] then [] else (A,xs.take (cutN s xs))::pcsF s f (if c=cutN s xs then A else A.map (·.add (cutN s xs))) (c-cutN s xs) (xs.drop (cutN s xs))
theorem pcsF_nil (s:Sp) (f:Nat) (A:Option Addr) (c:Nat):pcsF s f A c []=[]:=by cases f with
 | zero=>rfl
 | succ f=>unfold pcsF;rw[if_pos rfl]
theorem pcsF_cons {s:Sp} {f:Nat} {A:Option Addr} {c:Nat} {xs:List Int} (h:xs≠[]):pcsF s (f+1) A c xs=(A,xs.take (cutN s xs))::pcsF s f (if c=cutN s xs then A else A.map (·.add (cutN s xs))) (c-cutN s xs) (xs.drop (cutN s xs)):=by
 conv=>lhs;unfold pcsF
 rw[if_neg h]
theorem cell_of0 {w:World} {p t:Nat} {v:Value} (h:w.heap[p]?=some (.cells #[v] t (0,0))):w.cell? ⟨p,0,none⟩=some v:=by simp only[World.cell?,h];rfl
theorem pcsF_fuel {s:Sp}:∀ (f g:Nat) (A:Option Addr) (c:Nat) (xs:List Int),xs.length≤f->xs.length≤g->pcsF s f A c xs=pcsF s g A c xs
 | 0,g,A,c,xs,h1,h2=>by
  obtain rfl:xs=[]:=List.eq_nil_of_length_eq_zero (Z1)
  rw[pcsF_nil,pcsF_nil]
 | f+1,0,A,c,xs,h1,h2=>by
  obtain rfl:xs=[]:=List.eq_nil_of_length_eq_zero (Z1)
  rw[pcsF_nil,pcsF_nil]
 | f+1,g+1,A,c,xs,h1,h2=>by
  by_cases h0:xs=[]
  ·subst h0;rw[pcsF_nil,pcsF_nil]
  ·have hp:=cutN_pos s h0
   have hl:=List.length_pos_iff.2 h0
   rw[pcsF_cons h0,pcsF_cons h0,pcsF_fuel f g _ _ _ (Z2) (Z2)]
def encP (x:Option Addr × List Int):Array Value:=#[.slice x.1 x.2.length x.2.length]
theorem pcsF_read {s:Sp} {w:World}:∀ (f:Nat) (A:Option Addr) (c:Nat) (xs:List Int),Kd.C (Kd.int .i64) w A xs.length xs->xs.length≤c->∀ x∈pcsF s f A c xs,Kd.C (Kd.int .i64) w x.1 x.2.length x.2/\x.2≠[]/\x.2.length≤xs.length/\∀ y∈x.2,y∈xs
 | 0,A,c,xs,h,hc,x,hx=>by cases hx
 | f+1,A,c,xs,h,hc,x,hx=>by
  by_cases h0:xs=[]
  ·subst h0;rw[pcsF_nil]at hx;cases hx
  ·rw[pcsF_cons h0]at hx
   have hle:=cutN_le s xs
   have hp:=cutN_pos s h0
   rcases List.mem_cons.1 hx with e|hx
   ·subst e
    refine⟨Kd.C_take h hle,fun e=>?_,by simp only[List.length_take];omega,fun y hy=>List.mem_of_mem_take hy⟩
    have:=congrArg List.length e
    rw[List.length_take]at this
    have h1:=List.length_pos_iff.2 h0
    simp only[List.length_nil]at this
    omega
   ·obtain⟨q1,q2,q3,q4⟩:=pcsF_read f _ _ (xs.drop (cutN s xs)) (by have:=Kd.C_drop h hle hc;rw[show (Kd.int .i64).sz=1 from rfl]at this;simp only[Nat.mul_one]at this;exact this) (Z2) x hx
    exact⟨q1,q2,by rw[List.length_drop]at q3;omega,fun y hy=>List.mem_of_mem_drop (q4 y hy)⟩
theorem set_grown (W:World) (b:Nat) (u:Value):W.grownBy (W.setCell ⟨b,0,none⟩ u) (some b):=⟨rfl,rfl,rfl,Z12,fun k hk hne=>Below.heap_setCell W ⟨b,0,none⟩ u k (fun e=>hne (by rw[e]))⟩
theorem pieces_any (v:Nat) (A:Option Addr) (n c:Nat) (w:World):Calls Tryz.prog 57 #[.pointer (some ⟨v,0,none⟩),.slice A n c] w fun e w'=>e=.returned (.func (.func 92) #[] #[.pointer (some ⟨w.heap.size+1,0,none⟩),.pointer (some ⟨w.heap.size,0,none⟩)])/\(w.alloc (.cells #[.pointer (some ⟨v,0,none⟩)] 30)).alloc (.cells #[.slice A n c] 41)=w':=by
 go_enter Tryz.func57,Tryz.ntmps57
 go_wp2
 go_ret
 exact⟨rfl,rfl⟩
theorem elem_int:Tryz.prog.elem 41=3:=Z15
theorem under_ints:Tryz.prog.underlying 41=some (.slice (Tryz.prog.elem 41)):=by rw[elem_int];exact Tryz.underlying41
theorem size_int (W:World):(sizeOf (Tryz.prog.elem 41)).run Tryz.prog W=.ok 1 W:=by
 rw[elem_int]
 obtain⟨i,hi,hsz⟩:=Option.map_eq_some_iff.1 Ch.info_i
 injection hsz with _ hsz
 injection hsz with hsz _
 simp[sizeOf,typeInfo,hi,hsz]
theorem slice_to3 {A:Option Addr} {n c m:Nat} (hm:m≤c) (W:World):(Instr.slice 41 (.slice A n c) none (some (.int .i64 (m:Int))) (some (.int .i64 (m:Int)))).run Tryz.prog W=.ok (.slice A m m) W:=by
 rw[run_slice_hm W 41 A n c under_ints .i64 .i64 (m:Int) (m:Int) (Z1) (Z1) (Z1),size_int]
 simp only[Result.andThen,sliced,Int.toNat_natCast,Nat.zero_mul,Nat.sub_zero]
 congr 2
 by_cases e:m=0
 ·rw[if_pos e]
 ·rw[if_neg e]
  cases A with
  | none=>rfl
  | some a=>simp[Addr.add]
theorem slice_fr {A:Option Addr} {n c m:Nat} (hm:m≤n) (W:World):(Instr.slice 41 (.slice A n c) (some (.int .i64 (m:Int))) none none).run Tryz.prog W=.ok (.slice (if c=m then A else A.map (·.add m)) (n-m) (c-m)) W:=by
 rw[run_slice_l W 41 A n c under_ints .i64 (m:Int) (Z1) (Z1),size_int]
 simp only[Result.andThen,sliced,Int.toNat_natCast,Nat.mul_one]
theorem pieces_yields {w0 w:World} {v b b2 r:Nat} {o:Obj} {s:Sp} (hs:SpOk s) (hv:VocAt w0 v s) (hbw:Below w0.heap.size w0 w) (hb:w0.heap.size≤b) (hb2:w0.heap.size≤b2) (hbb:b≠b2) {A:Option Addr} {c:Nat} {xs:List Int} (hro:w.heap[r]?=some o) (hrb:r≠b) (hr:∀ W',W'.heap[r]?=some o->Below w0.heap.size w0 W'->Kd.C (Kd.int .i64) W' A xs.length xs) (hc:xs.length≤c) (hri:∀ x∈xs,rightP s x=true) (hl:xs.length≤200000000)
  (hcb:w.heap[b]?=some (.cells #[.slice A xs.length c] 41 (0,0))) (hcb2:w.heap[b2]?=some (.cells #[.pointer (some ⟨v,0,none⟩)] 30 (0,0))) :
  Rg.Yields 3 Tryz.prog 92 #[.pointer (some ⟨b,0,none⟩),.pointer (some ⟨b2,0,none⟩)] encP w0.heap.size b b2 r (pcsF s xs.length A c xs) w:=by
 intro l W1 J hbW hJ hY h0
 have HS:=As.mk hs
 have HV:=As.mk hv
 have HR:=As.mk hr
 have HRI:=As.mk hri
 have HLN:=As.mk hl
 have HB0:=As.mk (hbw.trans (hbW.mono hbw.size))
 have HC0:=As.mk ((hbW.block b (blk_lt hcb)).trans hcb)
 have HC20:=As.mk ((hbW.block b2 (blk_lt hcb2)).trans hcb2)
 have HRK0:=As.mk ((hbW.block r (Array.getElem?_eq_some_iff.1 hro).1).trans hro)
 have HCC:=As.mk hc
 have HJ:=As.mk hJ
 have HY:=As.mk hY
 have H0:=As.mk h0
 clear hs hv hr hro hri hl hcb hcb2 hbw hbW hc hJ hY h0
 generalize hPS:pcsF s xs.length A c xs=PS at *
 have HPS:=As.mk hPS
 clear hPS
 refine callsIn_of_wp Tryz.func92 rfl trivial ?_ rfl
 simp only[Tryz.ntmps92,List.size_toArray,List.length_cons,List.length_nil,Nat.reduceAdd,Nat.reduceSub,Array.replicate_succ,Array.replicate_zero,List.push_toArray,List.append_toArray,List.nil_append,List.cons_append]
 gi_wp2
 gi_loopg [] xs.length (fun f wr=>∃ (pre rest:List (Option Addr × List Int)) (A2:Option Addr) (c2:Nat) (ys:List Int) (W:World),As (W=wr)/\As (pre++rest=PS)/\As (rest=pcsF s ys.length A2 c2 ys)/\As (∀ W',W'.heap[r]?=some o->Below w0.heap.size w0 W'->Kd.C (Kd.int .i64) W' A2 ys.length ys)/\As (W.heap[r]?=some o)/\ys.length≤c2/\As (∀ x∈ys,rightP s x=true)/\As (ys.length≤200000000)/\As (W.heap[b]?=some (.cells #[.slice A2 ys.length c2] 41 (0,0)))/\As (W.heap[b2]?=some (.cells #[.pointer (some ⟨v,0,none⟩)] 30 (0,0)))/\As (Below w0.heap.size w0 W)/\As (J pre W)/\As (ys.length≤f))
 case atStart=>exact⟨[],PS,A,c,xs,W1,⟨rfl⟩,⟨rfl⟩,⟨HPS.out.symm⟩,HR,HRK0,HCC.out,HRI,HLN,HC0,HC20,HB0,H0,⟨Nat.le_refl _⟩⟩
 case round =>
  clear HR HRK0 HRI HLN HB0 HC0 HC20 HCC H0 HPS
  obtain⟨pre,rest,A2,c2,ys,W,HW,HPR,HRS,HR,HRK,hc2,HRI,HLN,HC,HC2,HB,HJP,HK⟩:=hrel
  have hW:=HW.out
  subst hW
  clear HW
  have k1:=cell_of0 HC.out
  have k2:=cell_of0 HC2.out
  by_cases h0:ys=[]
  ·subst h0
   have HE:=As.mk (show J PS W by have h:=HJP.out;have h2:=HPR.out;rw[HRS.out,pcsF_nil,List.append_nil]at h2;rw[←h2];exact h)
   gi_wp2
   go_end0
   exact⟨⟨_,rfl⟩,HE.out⟩
  ·have hpos:=List.length_pos_iff.2 h0
   have hposI:(0:Int)<(ys.length:Int):=Z1
   obtain⟨f,rfl⟩:∃ f,gk=f+1:=⟨gk-1,Z65⟩
   obtain⟨y,hy0⟩:∃ y,ys.length=y+1:=⟨ys.length-1,Z1⟩
   have hcons:=pcsF_cons (s:=s) (f:=y) (A:=A2) (c:=c2) h0
   rw[←hy0]at hcons
   have hcl:=cutN_le s ys
   have hcp:=cutN_pos s h0
   have HCU:=As.mk (callsIn_wide (n:=2).2 (cut_any (HV.out.below HB.out) HS.out (c:=c2) (HR.out W HRK.out HB.out) h0 HRI.out HLN.out))
   have HDR:=As.mk (fun(W':World) (e:W'.heap[r]?=some o) (hb:Below w0.heap.size w0 W')=>(by have h:=Kd.C_drop (HR.out W' e hb) hcl hc2;rw[show (Kd.int .i64).sz=1 from rfl]at h;simp only[Nat.mul_one]at h;exact h:Kd.C (Kd.int .i64) W' (if c2=cutN s ys then A2 else A2.map (·.add (cutN s ys))) (ys.drop (cutN s ys)).length (ys.drop (cutN s ys))))
   have HDI:=As.mk (fun x (hx:x∈ys.drop (cutN s ys))=>HRI.out x (List.mem_of_mem_drop hx))
   have HTL:=As.mk (show (ys.take (cutN s ys)).length=cutN s ys from Z8)
   have HDL:=As.mk (show (ys.drop (cutN s ys)).length=ys.length-cutN s ys by rw[List.length_drop])
   have HRS2:=As.mk (HRS.out.trans hcons)
   have HY0:=As.mk hy0
   clear HRS hcons hy0 HRI
   generalize cutN s ys=q at *
   have hq:=slice_to3 (A:=A2) (n:=ys.length) (c:=c2) (m:=q) (Z1)
   have hd:=slice_fr (A:=A2) (n:=ys.length) (c:=c2) (m:=q) hcl
   generalize (if c2=q then A2 else A2.map (·.add q))=A3 at *
   generalize ys.take q=tk at *
   generalize ys.drop q=dr at *
   rw[←HDL.out]at hd
   have HPX:=As.mk (show pre++[(A2,tk)] <+: PS from⟨pcsF s y A3 (c2-q) dr,by rw[List.append_assoc,←HPR.out,HRS2.out];rfl⟩)
   have HPR2:=As.mk (show (pre++[(A2,tk)])++pcsF s dr.length A3 (c2-q) dr=PS by rw[List.append_assoc,←HPR.out,HRS2.out,pcsF_fuel y dr.length _ _ dr (by rw[HDL.out];have:=HY0.out;omega) (Nat.le_refl _)];rfl)
   gi_wp2_with (refine⟨trivial,?_⟩;gi_at_call 93;refine HCU.out.mono ?_;rintro e w1 ⟨rfl,hb1⟩;have HB1:=As.mk (HB.out.trans (hb1.mono HB.out.size));have HJ1:=As.mk (HJ.out pre W w1 none HJP.out ⟨hb1.os,hb1.tape,hb1.output,hb1.size,fun k hk _=>hb1.block k hk⟩ (fun r e=>by cases e));have HRK1:=As.mk ((hb1.block r (Array.getElem?_eq_some_iff.1 HRK.out).1).trans HRK.out);have HC1:=As.mk ((hb1.block b (blk_lt HC.out)).trans HC.out);have HC21:=As.mk ((hb1.block b2 (blk_lt HC2.out)).trans HC2.out);clear hb1 k1 k2;have k1:=cell_of0 HC1.out;obtain⟨fn,tmps,assign,body,hy,hR⟩:=HY.out pre (A2,tk) w1 HJ1.out HPX.out;unfold encP at hy;dsimp only at hy;rw[HTL.out]at hy)
   refine hR.mono ?_
   rintro e W3 ⟨rfl,hJ3,hk3⟩
   have HB3:=As.mk (HB1.out.trans hk3.1)
   have HC3:=As.mk (hk3.2.1.trans HC1.out)
   have HC23:=As.mk (hk3.2.2.1.trans HC21.out)
   have HRK3:=As.mk (hk3.2.2.2.trans HRK1.out)
   have HJ3:=As.mk hJ3
   clear hJ3 hk3 hR hy k1
   have k1:=cell_of0 HC3.out
   have z1:=blk_frozen HC3.out 0
   gi_wp2
   clear k1 z1 hq hd
   go_roundg f
   case measure=>omega
   case rel=>exact⟨pre++[(A2,tk)],pcsF s dr.length A3 (c2-q) dr,A3,c2-q,dr,_,⟨rfl⟩,HPR2,⟨rfl⟩,HDR,⟨(Below.heap_setCell W3 ⟨b,0,none⟩ _ r hrb).trans HRK3.out⟩,by rw[HDL.out];omega,HDI,⟨by rw[HDL.out];have:=HLN.out;omega⟩,⟨blk_set HC3.out 0 _⟩,⟨(Below.heap_setCell W3 ⟨b,0,none⟩ _ b2 (Ne.symm hbb)).trans HC23.out⟩,⟨HB3.out.setCell (p:=⟨b,0,none⟩) hb _⟩,⟨HJ.out _ _ _ (some b) HJ3.out (set_grown W3 b _) (fun r e=>by cases e;rfl)⟩,⟨by rw[HDL.out];have:=HK.out;omega⟩⟩
end Go.Proofs.YtkffhgiiejbnaaaGreat.En
namespace Go.Proofs.YtkffhgiiejbnaaaGreat.En
open Go.Shelf Go.RowKit YtkffhgiiejbnaaaGreatW.PrintWords YtkffhgiiejbnaaaGreatW.PrintLast YtkffhgiiejbnaaaGreatW.PrintMore Rf Aid Mp Hp Bn Tk Vc Rg
def pieceT (s:Sp):List Int->List Int
 | []=>[]
 | a::l=>if a<0 then [(Mk.hasP s.X a).1.f0] else Ch.encS (tabOf s).1 (strOfNums (a::l))
theorem pieceT_cons (s:Sp) (a:Int) (l:List Int):pieceT s (a::l)=if a<0 then [(Mk.hasP s.X a).1.f0] else Ch.encS (tabOf s).1 (strOfNums (a::l)):=rfl
theorem pieceT_len (s:Sp):∀ p:List Int,(pieceT s p).length≤p.length
 | []=>Nat.le_refl _
 | a::l=>by
  rw[pieceT_cons]
  split
  ·simp
  ·have:=Ch.encS_len (tabOf s).1 (strOfNums (a::l));rw[str_size]at this;exact this
theorem piece_neg {w:World} {v:Nat} {s:Sp} (hv:VocAt w v s) {A:Option Addr} {c:Nat} {a:Int} {l:List Int} (hr:Kd.C (Kd.int .i64) w A (a::l).length (a::l)) (ha:a<0) :
  Calls Tryz.prog 94 #[.pointer (some ⟨v,0,none⟩),.slice A (a::l).length c] w fun e w'=>∃ sv,e=.returned sv/\Kd.R (Kd.int .i64) 3 w' w.heap.size (fun _=>True) sv (pieceT s (a::l))/\Below w.heap.size w w':=by
 have HV:=As.mk hv
 have HR:=As.mk hr
 obtain⟨ad,rfl,z0⟩:=rd_at hr (i:=0) (a:=a) rfl
 simp only[Addr.add_zero']at z0
 have hlen:(0:Int)<((a::l).length:Int):=by simp only[List.length_cons];omega
 have hlenN:0<(a::l).length:=by simp
 have HE:=As.mk (show pieceT s (a::l)=[(Mk.hasP s.X a).1.f0] by rw[pieceT_cons,if_pos ha])
 have HX0:=As.mk (show (a::l)[0]?=some a from rfl)
 rw[HE.out]
 clear hv hr
 generalize a::l=p at *
 generalize hn:p.length=n at *
 go_enter Tryz.func94,Tryz.ntmps94
 go_wp2
 refine start_ (n:=11) (S:=fun w'=>Below w.heap.size w w') (ds:=[]) #[false,false,false,false,false,false,false,false,false,false,false] (Z15) rfl rfl (below_drew1 (Below.refl _ _)) (fun hHeld=>?_)
 have HW9:=As.mk hHeld;clear hHeld;generalize w.drew=w9 at HW9 ⊢;have hHeld:=HW9.out
 refine pI 0 (some 12) (bs 11 1) ?_
 refine pI 2 (some 14) (bs 11 5) ?_
 refine pI 3 (some 15) (bs 11 13) ?_
 refine tI 4 (some 16) (bs 11 29) rfl (by intro w' hS';have s0:=hS';have x0:=rd_ad (Kd.C_below HR.out hS') HX0.out;simp only[Addr.add_zero']at x0;go_simp;with_reducible rfl) hHeld ?_
 refine one_ (i:=1) (N:=some 13) (bs 11 31) rfl rfl (Z15) (Z31) (fun K hK=>?_)
 refine goes_ Tryz.func67 (Z15) rfl #[.pointer (some ⟨v,0,none⟩)] (by rfl) rfl rfl (Z101) ?_
 refine(marks_any (HV.out.below HW9.out)).mono ?_
 rintro e w10 ⟨pm,rfl,hm,rfl⟩
 have HM:=As.mk hm
 clear hm
 refine⟨_,rfl,?_⟩
 refine hK.out _ _ HW9.out (fun _=>?_)
 clear hK K
 refine nI ?_
 refine one_ (i:=5) (N:=some 17) (bs 11 63) rfl rfl (Z15) (Z31) (fun K hK=>?_)
 refine goes_ Tryz.func129 (Z15) rfl #[.pointer (some ⟨pm,0,none⟩),.int .i64 a] (by rfl) rfl rfl (Z101) ?_
 refine(Mk.id_any HM.out a).mono ?_
 rintro e w10 ⟨rfl,hb10⟩
 have HW10:=As.mk (bt_ HW9.out hb10)
 clear hb10
 refine⟨_,rfl,?_⟩
 refine hK.out _ _ HW10.out (fun _=>?_)
 clear hK K hHeld
 refine nI ?_
 refine pI 6 (some 11) (bs 11 127) ?_
 refine pI 7 (some 18) (bs 11 255) ?_
 refine pI 8 (some 19) (bs 11 511) ?_
 refine pI 9 (some 5) (bs 11 1023) ?_
 refine pI 10 (some 6) (bs 11 2047) ?_
 refine done_ (Z15) ?_
 go_wp2
 go_ret
 exact⟨_,rfl,Kd.R_lower (Kd.R_of_own (own_lit w10 w10.heap.size 3 .i64 [(Mk.hasP s.X a).1.f0] (Nat.le_refl _) (by simp)) (fun _ _=>trivial)) HW10.out.size,bt_ HW10.out (below_alloc (Below.refl _ _) _)⟩
theorem piece_pos {w:World} {v:Nat} {s:Sp} (hv:VocAt w v s) {A:Option Addr} {c:Nat} {a:Int} {l:List Int} (hr:Kd.C (Kd.int .i64) w A (a::l).length (a::l)) (hb:∀ x∈a::l,0≤x/\x<256) (hl:(a::l).length≤200000000) :
  Calls Tryz.prog 94 #[.pointer (some ⟨v,0,none⟩),.slice A (a::l).length c] w fun e w'=>∃ sv,e=.returned sv/\Kd.R (Kd.int .i64) 3 w' w.heap.size (fun _=>True) sv (pieceT s (a::l))/\Below w.heap.size w w':=by
 have HV:=As.mk hv
 have HR:=As.mk hr
 have HBY:=As.mk hb
 have HLN:=As.mk hl
 obtain⟨ad,rfl,z0⟩:=rd_at hr (i:=0) (a:=a) rfl
 simp only[Addr.add_zero']at z0
 have hlen:(0:Int)<((a::l).length:Int):=by simp only[List.length_cons];omega
 have hlenN:0<(a::l).length:=by simp
 have ha:0≤a:=(hb a (List.mem_cons_self ..)).1
 have ha0:¬ a<0:=Z1
 have HE:=As.mk (show pieceT s (a::l)=Ch.encS (tabOf s).1 (strOfNums (a::l)) by rw[pieceT_cons,if_neg ha0])
 rw[HE.out]
 clear hv hr hb hl
 generalize a::l=p at *
 go_enter Tryz.func94,Tryz.ntmps94
 go_wp2_with (first
  | (go_at_call 131;refine(table_any HV.out).mono ?_;rintro e w1 ⟨pt,rfl,ht,rfl⟩;have HT:=As.mk ht;clear ht)
  | (go_at_call 132;refine(text_of HR.out HBY.out HLN.out).mono ?_;rintro e w2 ⟨rfl,hb2⟩;have HB2:=As.mk hb2;clear hb2)
  | (go_at_call 130;refine(Ch.encode_any (good_of s) (HT.out.below HB2.out) (strOfNums p) (by rw[str_size];exact HLN.out)).mono ?_;rintro e w3 ⟨sv,rfl,ho,hb3⟩;have HO3:=As.mk ho;have HB3:=As.mk hb3;clear ho hb3))
 go_ret
 exact⟨_,rfl,Kd.R_lower HO3.out HB2.out.size,bt_ HB2.out HB3.out⟩
def PieceOk (s:Sp) (p:List Int):Prop:=p≠[]/\((∃ a,p=[a]/\a<0)\/∀ x∈p,0≤x/\x<256)
theorem piece_any {w:World} {v:Nat} {s:Sp} (hv:VocAt w v s) {A:Option Addr} {c:Nat} {p:List Int} (hr:Kd.C (Kd.int .i64) w A p.length p) (hp:PieceOk s p) (hl:p.length≤200000000) :
  Calls Tryz.prog 94 #[.pointer (some ⟨v,0,none⟩),.slice A p.length c] w fun e w'=>∃ sv,e=.returned sv/\Kd.R (Kd.int .i64) 3 w' w.heap.size (fun _=>True) sv (pieceT s p)/\Below w.heap.size w w':=by
 obtain⟨h0,⟨a,rfl,ha⟩|hb⟩:=hp
 ·exact piece_neg hv hr ha
 ·match p,h0 with
  | a::l,_=>exact piece_pos hv hr hb hl
theorem cutN_neg {s:Sp} {a:Int} {l:List Int} (ha:a<0):cutN s (a::l)=1:=by
 cases l with
 | nil=>rfl
 | cons b l=>unfold cutN;rw[if_pos (.inl ha)]
theorem cutN_bytes {s:Sp}:∀ (l:List Int) (a:Int),0≤a->∀ x∈(a::l).take (cutN s (a::l)),0≤x
 | [],a,ha,x,hx=>by
  have e:cutN s [a]=1:=rfl
  rw[e]at hx
  simp only[List.take_succ_cons,List.take_zero,List.mem_singleton]at hx
  omega
 | b::l,a,ha,x,hx=>by
  unfold cutN at hx
  by_cases h:a<0\/b<0\/cutP s a.toNat b.toNat=true
  ·rw[if_pos h]at hx
   simp only[List.take_succ_cons,List.take_zero,List.mem_singleton]at hx
   omega
  ·rw[if_neg h,Nat.add_comm,List.take_succ_cons]at hx
   rcases List.mem_cons.1 hx with e|hx
   ·omega
   ·exact cutN_bytes l b (by have:=h;omega) x hx
theorem pcsF_ok {s:Sp}:∀ (f:Nat) (A:Option Addr) (c:Nat) (xs:List Int),(∀ x∈xs,rightP s x=true)->∀ x∈pcsF s f A c xs,PieceOk s x.2
 | 0,A,c,xs,h,x,hx=>by cases hx
 | f+1,A,c,xs,h,x,hx=>by
  by_cases h0:xs=[]
  ·subst h0;rw[pcsF_nil]at hx;cases hx
  ·rw[pcsF_cons h0]at hx
   rcases List.mem_cons.1 hx with e|hx
   ·subst e
    match xs,h0 with
    | a::l,_ =>
     refine⟨fun e=>?_,?_⟩
     ·have:=cutN_pos s (l:=a::l) (by simp)
      have h2:=congrArg List.length e
      rw[List.length_take]at h2
      simp only[List.length_cons,List.length_nil]at h2
      omega
     ·by_cases ha:a<0
      ·left;exact⟨a,by rw[cutN_neg ha];rfl,ha⟩
      ·right
       intro y hy
       have h1:=cutN_bytes l a (Z1) y hy
       exact⟨h1,rightP_byte (h y (List.mem_of_mem_take hy)) h1⟩
   ·exact pcsF_ok f _ _ _ (fun y hy=>h y (List.mem_of_mem_drop hy)) x hx
end Go.Proofs.YtkffhgiiejbnaaaGreat.En
namespace Go.Proofs.YtkffhgiiejbnaaaGreat.En
open Go.Shelf Go.RowKit YtkffhgiiejbnaaaGreatW.PrintWords YtkffhgiiejbnaaaGreatW.PrintLast YtkffhgiiejbnaaaGreatW.PrintMore Rf Aid Mp Hp Bn Tk Vc Rg
attribute [local go_sem] Oper.semAt_some
def tokP (s:Sp) (l:List (Option Addr × List Int)):List Int:=l.flatMap (fun x=>pieceT s x.2)
theorem tokP_snoc (s:Sp) (l:List (Option Addr × List Int)) (x:Option Addr × List Int):tokP s (l++[x])=tokP s l++pieceT s x.2:=by simp[tokP]
def TokI (w0:World) (s:Sp) (v:Nat) (pre:List (Option Addr × List Int)) (W:World):Prop :=
 (∃ u,W.heap[w0.heap.size+1]?=some (.cells #[u] 41 (0,0))/\Kd.R (Kd.int .i64) 3 W (w0.heap.size+4) (fun _=>True) u (tokP s pre))/\W.heap[w0.heap.size]?=some (.cells #[.pointer (some ⟨v,0,none⟩)] 30 (0,0))/\Below w0.heap.size w0 W/\w0.heap.size+4≤W.heap.size
theorem tokI_bears (w0:World) (s:Sp) (v:Nat):Rg.Bears (w0.heap.size+4) (w0.heap.size+3) (TokI w0 s v):=by
 rintro pre W W' row ⟨⟨u,h1,h2⟩,h3,h4,h5⟩ hg hr
 have hne:∀ k,k<w0.heap.size+3->some k≠row:=fun k hk e=>by rcases hr k e.symm with h|⟨h,_⟩ <;> omega
 refine⟨⟨u,(hg.block _ (blk_lt h1) (hne _ (Z1))).trans h1,?_⟩,(hg.block _ (blk_lt h3) (hne _ (Z1))).trans h3,h4.grown hg (Z1) (fun k e=>by rcases hr k e with h|⟨h,_⟩ <;> omega),by have:=hg.size;omega⟩
 refine Kd.R_mono (Kd.R_move (Kd.R_bound h2) (fun k hk=>hg.block k hk.2.2.1 (fun e=>?_))) (fun _ _=>trivial)
 rcases hr k e.symm with h|⟨_,o,ho,hc⟩
 ·have:=hk.2.1;omega
 ·obtain⟨q,hq,cells,hcc⟩:=hk.2.2.2
  rw[hcc]at ho
  injection ho with ho
  subst ho
  cases hc
theorem four_new (w:World) (a b c d:Obj):((((w.alloc a).alloc b).alloc c).alloc d).heap[w.heap.size]?=some a/\((((w.alloc a).alloc b).alloc c).alloc d).heap[w.heap.size+1]?=some b/\((((w.alloc a).alloc b).alloc c).alloc d).heap[w.heap.size+2]?=some c/\((((w.alloc a).alloc b).alloc c).alloc d).heap[w.heap.size+3]?=some d/\((((w.alloc a).alloc b).alloc c).alloc d).heap.size=w.heap.size+4:=by
 have h:((((w.alloc a).alloc b).alloc c).alloc d).heap=(((w.heap.push a).push b).push c).push d:=rfl
 rw[h]
 refine⟨?_,?_,?_,?_,by simp⟩
 ·rw[Array.getElem?_push,if_neg (Z6),Array.getElem?_push,if_neg (Z6),Array.getElem?_push,if_neg (by simp),Array.getElem?_push,if_pos rfl]
 ·rw[Array.getElem?_push,if_neg (by simp),Array.getElem?_push,if_neg (by simp),Array.getElem?_push,if_pos (by simp)]
 ·rw[Array.getElem?_push,if_neg (by simp),Array.getElem?_push,if_pos (by simp)]
 ·rw[Array.getElem?_push,if_pos (by simp)]
theorem tokP_pre {s:Sp} {pre PS:List (Option Addr × List Int)} (h:pre <+: PS):(tokP s pre).length≤(tokP s PS).length:=by
 obtain⟨t,rfl⟩:=h
 simp[tokP]
theorem tokP_len (s:Sp):∀ (f:Nat) (A:Option Addr) (c:Nat) (xs:List Int),(tokP s (pcsF s f A c xs)).length≤xs.length
 | 0,A,c,xs=>by simp[pcsF,tokP]
 | f+1,A,c,xs=>by
  by_cases h0:xs=[]
  ·subst h0;rw[pcsF_nil];simp[tokP]
  ·rw[pcsF_cons h0]
   have h1:=tokP_len s f (if c=cutN s xs then A else A.map (·.add (cutN s xs))) (c-cutN s xs) (xs.drop (cutN s xs))
   have h2:=pieceT_len s (xs.take (cutN s xs))
   unfold tokP at h1 ⊢
   rw[List.flatMap_cons,List.length_append]
   rw[List.length_drop]at h1
   rw[List.length_take]at h2
   have:=cutN_le s xs
   simp only at h2 ⊢
   omega
theorem keeps_below {n:Nat} {W W':World} (h:Below n W W') (hn:W.heap.size≤n):KeepsOthers W W':=⟨h.size,fun k o hk _=>(h.block k (Nat.lt_of_lt_of_le (blk_lt hk) hn)).trans hk⟩
theorem keeps_grow {W W':World} {b:Nat} {ok:Nat->Prop} {u:Value} {l:List Int} (hg:W.grownBy W' u.ownBlock) (hu:Kd.R (Kd.int .i64) 3 W b ok u l):KeepsOthers W W' :=
 KeepsOthers.of_grownBy hg fun j o e hj=>by
  obtain⟨_,_,_,q,hq,cells,hcc⟩:=(Kd.R_bound hu).1 j e
  rw[hcc]at hj
  injection hj with hj
  subst hj
  rfl
theorem tokens_any {w0:World} {v:Nat} {s:Sp} (hv:VocAt w0 v s) (hs:SpOk s) {A:Option Addr} {c:Nat} {xs:List Int} (hr:Kd.C (Kd.int .i64) w0 A xs.length xs) (hc:xs.length≤c) (hri:∀ x∈xs,rightP s x=true) (hl:xs.length≤200000000) :
  Calls Tryz.prog 61 #[.pointer (some ⟨v,0,none⟩),.slice A xs.length c] w0 fun e w'=>∃ sv,e=.returned sv/\Kd.R (Kd.int .i64) 3 w' w0.heap.size (fun _=>True) sv (tokP s (pcsF s xs.length A c xs))/\Below w0.heap.size w0 w':=by
 refine(callsIn_wide (n:=4)).1 ?_
 refine callsIn_of_wp_marks Tryz.func61 rfl trivial ?_ rfl
 simp only[Tryz.ntmps61,List.size_toArray,List.length_cons,List.length_nil,Nat.reduceAdd,Nat.reduceSub,Array.replicate_succ,Array.replicate_zero,List.push_toArray,List.append_toArray,List.nil_append,List.cons_append]
 gi_wp2_with (refine⟨trivial,?_⟩;gi_at_call 57;refine(callsIn_wide.2 (pieces_any v A xs.length c _)).mono ?_;rintro e w1 ⟨rfl,rfl⟩)
 have HN:=As.mk (four_new w0 (.cells #[.pointer (some ⟨v,0,none⟩)] 30 (0,0)) (.cells #[.slice none 0 0] 41 (0,0)) (.cells #[.pointer (some ⟨v,0,none⟩)] 30 (0,0)) (.cells #[.slice A xs.length c] 41 (0,0)))
 have HB:=As.mk (below_alloc (below_alloc (below_alloc (below_alloc (Below.refl w0.heap.size w0) (.cells #[.pointer (some ⟨v,0,none⟩)] 30)) (.cells #[.slice none 0 0] 41)) (.cells #[.pointer (some ⟨v,0,none⟩)] 30)) (.cells #[.slice A xs.length c] 41))
 generalize ((((w0.alloc (.cells #[.pointer (some ⟨v,0,none⟩)] 30)).alloc (.cells #[.slice none 0 0] 41)).alloc (.cells #[.pointer (some ⟨v,0,none⟩)] 30)).alloc (.cells #[.slice A xs.length c] 41))=w at HN HB ⊢
 obtain⟨hn0,hn1,hn2,hn3,hsz⟩:=HN.out
 have hB:=HB.out
 have hI0:TokI w0 s v [] w:=⟨⟨_,hn1,Kd.R_nil _ _ _ _ _⟩,hn0,hB,Z1⟩
 have hbe:Rg.Bears w.heap.size (w0.heap.size+3) (TokI w0 s v):=by rw[hsz];exact tokI_bears w0 s v
 have hit:=pieces_yields hs hv hB (b:=w0.heap.size+3) (b2:=w0.heap.size+2) (Z1) (Z1) (Z1) hn2 (Z1) (fun W' _ hb=>Kd.C_below hr hb) hc hri hl hn3 hn2
 have HRD:=As.mk (pcsF_read (s:=s) xs.length A c xs hr hc)
 have HOK:=As.mk (pcsF_ok (s:=s) xs.length A c xs hri)
 have HTL:=As.mk (show (tokP s (pcsF s xs.length A c xs)).length≤200000000 from Nat.le_trans (tokP_len s _ _ _ _) hl)
 have HL:=As.mk hl
 generalize hPS:pcsF s xs.length A c xs=PS at *
 have HPS:=As.mk hPS
 clear hPS
 have HV:=As.mk hv
 have HSZ:=As.mk hsz
 clear hr hc hri hl hv hn0 hn1 hn2 hn3 hB HB HN
 refine range_all (gf:=92) rfl (enters_of Tryz.func92 (Z15) rfl) (encs:=encP) (fun _=>rfl) PS w0.heap.size (w0.heap.size+3) (w0.heap.size+2) (w0.heap.size+2) (Z1) (Z1) (Z1) (Z1) hit (TokI w0 s v) hbe hI0
  (fun x=>{ tmps:=#[.pointer (some ⟨v,0,none⟩),.slice A xs.length c,.pointer (some ⟨w0.heap.size,0,none⟩),undef,.slice none 0 0,.pointer (some ⟨w0.heap.size+1,0,none⟩),.slice x.1 x.2.length x.2.length,.pointer (some ⟨v,0,none⟩),.slice A xs.length c,.func (.func 92) #[] #[.pointer (some ⟨w0.heap.size+1+1+1,0,none⟩),.pointer (some ⟨w0.heap.size+1+1,0,none⟩)],.slice x.1 x.2.length x.2.length,undef,undef,undef,undef,undef,undef],defers:=[] }) ?assign ?body ?done
 case assign =>
  intro l x W K hK
  have e:(#[10]:Array Tmp).zip (encP x)=#[(10,.slice x.1 x.2.length x.2.length)]:=by simp[encP]
  rw[e]
  gi_wp2
  exact hK
 case body =>
  rintro l pre ⟨pa,p⟩ W ⟨⟨u,h1,hu⟩,h3,hB,hS⟩ hpx
  have hmem:(pa,p)∈PS:=hpx.subset (by simp)
  have HHL:=As.mk (Nat.le_trans (tokP_pre (s:=s) hpx) HTL.out)
  rw[tokP_snoc]at HHL
  have HP:=As.mk (HRD.out _ hmem)
  have HPK:=As.mk (HOK.out _ hmem)
  have HU:=As.mk hu
  have HB:=As.mk hB
  have HZ:=As.mk hS
  have H1:=As.mk h1
  have H3:=As.mk h3
  clear hu hB hS hpx hmem h1 h3
  refine wpIn_block ?_
  dsimp only at HP HPK HHL ⊢
  refine startR_ (n:=6) (S:=fun w'=>Below (w0.heap.size+4) W w') (ds:=[5]) (Z15) (by rintro⟨_,_,h⟩;exact nomatch (show Exit.outgrown=Exit.normal/\_ from h).1) #[false,false,false,false,false,false] (Z15) rfl rfl (below_drew1 (Below.refl _ _)) (fun hHeld=>?_)
  have HD:=As.mk (below_drew1 (Below.refl W.heap.size W));have HK:=As.mk (KeepsOthers.drew W);clear hHeld;generalize W.drew=w5 at HD HK ⊢;have hHeld:=HD.out.mono HZ.out
  refine pI 2 (some 13) (bs 6 4) ?_
  refine tI 0 (some 11) (bs 6 5) rfl (Z185) hHeld ?_
  refine tI 1 (some 12) (bs 6 7) rfl (Z185) hHeld ?_
  refine one_ (i:=3) (N:=some 14) (bs 6 15) rfl rfl (Z15) (Z31) (fun K hK=>?_)
  refine goes_ Tryz.func94 (Z15) rfl #[.pointer (some ⟨v,0,none⟩),.slice pa p.length p.length] (by rfl) rfl rfl (Z101) ?_
  have HB5:=As.mk (HB.out.trans (HD.out.mono HB.out.size))
  refine(piece_any (HV.out.below HB5.out) (Kd.C_below HP.out.1 HB5.out) HPK.out (by have h1:=HP.out.2.2.1;have h2:=HL.out;omega)).mono ?_
  rintro e w6 ⟨sv,rfl,hr6,hb6⟩
  have HR6:=As.mk hr6
  have HB6:=As.mk hb6
  have HD6:=As.mk (HD.out.trans (hb6.mono HD.out.size))
  have HK6:=As.mk (HK.out.trans (keeps_below hb6 (Nat.le_refl _)))
  clear hr6 hb6
  obtain⟨A6,c6,rfl,hc6,hC6⟩:=Kd.R_reads HR6.out
  refine⟨_,rfl,?_⟩
  refine hK.out _ _ (HD6.out.mono HZ.out) (fun _=>?_)
  clear hK K
  refine nI ?_
  refine one_ (i:=4) (N:=some 15) (bs 6 31) rfl rfl (Z15) (Z31) (fun K hK=>?_)
  refine Kd.R_append_rows_step (Kd.int .i64) (Rr:=(Kd.int .i64).K w6) (w0:=w6) (w0.heap.size+4) (by rfl) (.tmp 11) (.tmp 14) 41 3 (.int .i64 0) 8 rfl Tryz.underlying41 info3 rfl (Z31) (Z1) u (tokP s pre) (pieceT s p) A6 (pieceT s p).length c6 (fun _=>True) (fun _=>False) (by rfl) (by rfl) (Kd.R_below HU.out HD6.out) hC6 (fun x cs hk=>hk) (fun _ hk=>hk.elim) (fun _ _=>trivial) (Below.refl _ _) (Nat.le_trans HZ.out HD6.out.size) (by have h1:=HHL.out;rw[List.length_append]at h1;omega) ?_
  intro u7 w7 ho hb hg hat
  obtain⟨A7,c7,rfl,hc7,hC7⟩:=Kd.R_reads ho
  clear hc7 hC7
  have HO7:=As.mk ho
  have HD7:=As.mk ((HD6.out.mono HZ.out).trans hb)
  have HK7:=As.mk (HK6.out.trans (keeps_grow hg (Kd.R_below HU.out HD6.out)))
  clear ho hb hg hat
  refine hK.out _ _ HD7.out (fun _=>?_)
  clear hK K
  refine nI ?_
  refine last_ (i:=5) (N:=none) (bs 6 63) rfl rfl (Z15) (Z31) (fun K hK=>?_)
  have z1:=cell_of0 ((HD7.out.block _ (Z1)).trans H1.out)
  have z2:=frozen_of ((HD7.out.block _ (Z1)).trans H1.out) 0
  refine skip_ (w1:=w7.setCell ⟨w0.heap.size+1,0,none⟩ (.slice A7 (tokP s pre++pieceT s p).length c7)) (by rfl) rfl ?_ ?_
  ·first|(go_simp;done)|(go_simp;rfl)
  refine hK.out _ _ ?_
  clear hK K
  refine done_ (Z15) ?_
  have hz:=HZ.out
  have hB7:=HD7.out.mono (show w0.heap.size≤w0.heap.size+4 from Z1)
  have hne:∀ k,k≠w0.heap.size+1->(w7.setCell ⟨w0.heap.size+1,0,none⟩ (.slice A7 (tokP s pre++pieceT s p).length c7)).heap[k]?=w7.heap[k]?:=fun k hk=>Below.heap_setCell w7 ⟨w0.heap.size+1,0,none⟩ _ k hk
  have h17:=(HD7.out.block _ (show w0.heap.size+1<w0.heap.size+4 from Z1)).trans H1.out
  have hS:=(Below.refl w0.heap.size w7).setCell (p:=⟨w0.heap.size+1,0,none⟩) (show w0.heap.size≤w0.heap.size+1 from Z1) (.slice A7 (tokP s pre++pieceT s p).length c7)
  refine⟨rfl,HK7.out.trans (KeepsOthers.setCell _ _ _),⟨hB7.trans hS,?_,?_,?_⟩,⟨_,blk_put h17 0 _ rfl,?_⟩,?_,(HB.out.trans hB7).trans hS,?_⟩
  ·exact(hne _ (Z1)).trans (HD7.out.block _ (Z1))
  ·exact(hne _ (Z1)).trans (HD7.out.block _ (Z1))
  ·exact(hne _ (Z1)).trans (HD7.out.block _ (Z1))
  ·rw[tokP_snoc]
   exact Kd.R_set HO7.out h17 (Z31) 0 _
  ·exact((hne _ (Z1)).trans (HD7.out.block _ (Z1))).trans H3.out
  ·exact Nat.le_trans hz (Nat.le_trans HD7.out.size hS.size)
 case done =>
  intro D W hD hI hd
  obtain⟨⟨u,h1,hu⟩,_,_,hz⟩:=id hI
  have z1:=cell_of0 h1
  gi_wp2
  refine⟨by simp,.inl ⟨_,_,rfl,run_takeDeferred hd,?_⟩⟩
  have hI2:=tokI_bears w0 s v PS W (W.putObj D (.deferred none)) (some D) hI (put_grown W D _) (fun r e=>by cases e;exact .inr ⟨Z1,_,hd,rfl⟩)
  obtain⟨⟨u2,g1,g2⟩,_,g4,_⟩:=hI2
  have hu2:u2=u:=by
   have:=g1.symm.trans ((World.putObj_heap_other (show w0.heap.size+1≠D from Z1)).trans h1)
   injection this with this
   injection this with this
   injection this with this
   injection this with this
  subst hu2
  exact⟨_,results_tmp rfl _ _ _,u2,rfl,by rw[HPS.out];exact Kd.R_lower g2 (Z1),g4⟩
end Go.Proofs.YtkffhgiiejbnaaaGreat.En
namespace Go.Proofs.YtkffhgiiejbnaaaGreat.En
open Go.Shelf Go.RowKit YtkffhgiiejbnaaaGreatW.PrintWords YtkffhgiiejbnaaaGreatW.PrintLast YtkffhgiiejbnaaaGreatW.PrintMore Rf Aid Mp Hp Bn Tk Vc Rg Go.Proofs.YtkffhgiiejbnaaaGreat.Fn
def encI (x:Int):Value:=.int .i64 x
theorem idxI (A:Option Addr) (c:Nat) (l:List Int) (g:Nat) (lb:Array Value) (p:Int->Bool) (eg:∀ args w,(callFunc g args).run Tryz.prog w=.ok (.enter g args) w) (w:World) (hr:Kd.C (Kd.int .i64) w A l.length l) (hl:l.length≤9223372036854775807)
  (hp:∀ W,Below w.heap.size w W->∀ x∈l,Calls Tryz.prog g (#[encI x]++lb) W fun e W'=>e=.returned (.bool (p x))/\Below W.heap.size W W') :
  Calls Tryz.prog 59 #[.slice A l.length c,.func (.func g) #[] lb] w fun e w'=>e=.returned (.int .i64 (ix (l.findIdx? p)))/\Below w.heap.size w w':=by
 have HR:=As.mk hr
 have HP:=As.mk hp
 clear hr hp
 obtain⟨R,hR⟩:∃ R,l.findIdx? p=R:=⟨_,rfl⟩
 have HF0:=As.mk (show ((l.drop 0).findIdx? p).map (0 + ·)=R from Z81)
 rw[hR]
 clear hR
 go_enter Tryz.func59,Tryz.ntmps59
 go_wp2
 go_loopg [5,8] l.length (fun k _ v w'=>∃ (i:Nat),v=.int .i64 i/\i≤l.length/\As (((l.drop i).findIdx? p).map (i + ·)=R)/\As (l.length-i≤k)/\As (Below w.heap.size w w'))
 case atStart=>exact⟨0,rfl,Nat.zero_le _,HF0,⟨Z1⟩,⟨Below.refl _ _⟩⟩
 case round =>
  clear HF0
  obtain⟨i,rfl,hi,HF,HK,HB⟩:=hrel
  by_cases hlt:i<l.length
  ·obtain⟨k1,rfl⟩:∃ k1,gk=k1+1:=⟨gk-1,Z65⟩
   obtain⟨ad,rfl,x0⟩:=rd_at (Kd.C_below HR.out HB.out) (List.getElem?_eq_getElem hlt)
   have hltI:(i:Int)<l.length:=Z1
   have HC:=As.mk (HP.out _ HB.out l[i] (List.getElem_mem hlt))
   have HS:=As.mk ((find_step p l i hlt).symm.trans HF.out)
   clear HF
   unfold encI at HC
   generalize l[i]=x at *
   cases hq:p x with
   | true =>
    rw[hq]at HC HS
    have HE:=As.mk ((if_pos rfl).symm.trans HS.out)
    clear HS
    go_wp2_with (go_at_fn g;refine HC.out.mono ?_;rintro e w1 ⟨rfl,hb⟩)
    go_ret
    exact⟨Z82,bt_ HB.out hb⟩
   | false =>
    rw[hq]at HC HS
    have HE:=As.mk ((if_neg (Z31)).symm.trans HS.out)
    clear HS
    go_wp2_with (go_at_fn g;refine HC.out.mono ?_;rintro e w1 ⟨rfl,hb⟩;have HB1:=As.mk (bt_ HB.out hb);clear hb HB)
    go_roundg k1
    case measure=>omega
    case rel=>exact⟨i+1,Z67,Z1,HE,⟨Z65⟩,HB1⟩
  ·obtain rfl:i=l.length:=by omega
   have HE:=As.mk ((find_end p l l.length (Nat.le_refl _)).symm.trans HF.out)
   go_wp2
   go_ret
   exact⟨Z82,HB.out⟩
end Go.Proofs.YtkffhgiiejbnaaaGreat.En
