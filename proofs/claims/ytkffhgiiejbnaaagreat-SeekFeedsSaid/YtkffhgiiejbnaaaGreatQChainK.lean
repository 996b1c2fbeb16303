import Derived.Test.YtkffhgiiejbnaaaGreatQChainA
import Derived.Test.YtkffhgiiejbnaaaGreatQTokD
set_option maxRecDepth 100000
set_option maxHeartbeats 400000
set_option linter.unusedVariables false
set_option linter.unusedSimpArgs false
set_option linter.unnecessarySimpa false
namespace Go.Proofs.YtkffhgiiejbnaaaGreat.Ch
open Go.RowKit YtkffhgiiejbnaaaGreatW.PrintWords YtkffhgiiejbnaaaGreatW.PrintLast YtkffhgiiejbnaaaGreatW.PrintMore Aid Mp Hp Hq Tk
def askF (E:List Ent) (lim:Int) (L:List Nd) (i:Int):Option (Int × Int × Int) :=
 if i=-1 then none else match L[i.toNat]? with
 | some n=>if n.next=-1 then none else match L[n.next.toNat]? with
  | some m=>match pairP E n.id m.id with
   | some r=>if (r:Int)<lim then some ((r:Int),n.id,m.id) else none
   | none=>none
  | none=>none
 | none=>none
def AskH (o:Option (Int × Int × Int)) (i:Int) (H H':List (Th Wx)):Prop:=match o with
 | none=>H'=H
 | some (r,a,b)=>∃ t,H'=⟨r,i,t,⟨i,a,b⟩⟩::H
theorem HpOf.more {W:World} {base h B:Nat} {l:List (Th Wx)} (H:HpOf W base h B l):HpOf W base h (B+1) l:=by
 obtain⟨v,n,l',h1,h2,h3,h4⟩:=H.out
 exact⟨⟨v,n,l',h1,h2,Z1,h4⟩⟩
structure Asked (w w':World) (base c:Nat) (v:Value) (pt q:Nat) (lim st:Int) (L:List Nd) (B:Nat) (H:List (Th Wx)) (o:Option (Int × Int × Int)) (i:Int):Prop where
 mk::(link:LkAt w' base c v pt q lim st L) (below:Below base w w') (queue:∃ H',AskH o i H H'/\HpOf w' base q (B+1) H')
theorem HpOf.qt {W:World} {base h B:Nat} {l:List (Th Wx)} (H:HpOf W base h B l):∃ cs,W.heap[h]?=some (.cells cs 288 (0,0)):=by
 obtain⟨v,n,l',h1,_⟩:=H.out
 exact⟨_,h1.blk⟩
theorem ask_last {E:List Ent} {lim:Int} {L:List Nd} {i:Nat} {n:Nd} (hi:L[i]?=some n) (hn:n.next=-1):askF E lim L (i:Int)=none:=by
 unfold askF;rw[if_neg (Z1),Int.toNat_natCast,hi];simp only;rw[if_pos hn]
theorem ask_two {E:List Ent} {lim:Int} {L:List Nd} {i j:Nat} {n m:Nd} (hi:L[i]?=some n) (hn:n.next=(j:Int)) (hj:L[j]?=some m):askF E lim L (i:Int)=(match pairP E n.id m.id with|some r=>if (r:Int)<lim then some ((r:Int),n.id,m.id) else none|none=>none):=by
 unfold askF;rw[if_neg (Z1),Int.toNat_natCast,hi];simp only;rw[if_neg (Z1),hn,Int.toNat_natCast,hj]
theorem asks_end {w:World} {base c:Nat} {v:Value} {pt q:Nat} {lim st:Int} {L:List Nd} {B:Nat} {H:List (Th Wx)} {E:List Ent} (HL:LkAt w base c v pt q lim st L) (HQ:HpOf w base q B H) :
  Calls Tryz.prog 178 #[.pointer (some ⟨c,0,none⟩),.int .i64 (-1)] w fun e w'=>e=.returned (.tuple #[])/\Asked w w' base c v pt q lim st L B H (askF E lim L (-1)) (-1):=by
 have HL:=As.mk HL
 have HQ:=As.mk HQ
 rename_i x1 x2
 clear x1 x2
 go_enter Tryz.func178,Tryz.ntmps178
 go_wp2
 refine bodyPost_ret (results_none rfl _ _ _) rfl ?_
 exact⟨rfl,HL.out,Below.refl _ _,H,rfl,HpOf.more HQ.out⟩
theorem asks_last {w:World} {base c:Nat} {v:Value} {pt q:Nat} {lim st:Int} {L:List Nd} {B:Nat} {H:List (Th Wx)} {E:List Ent} (HL:LkAt w base c v pt q lim st L) (HQ:HpOf w base q B H) (i:Nat) {n:Nd} (hi:L[i]?=some n) (hn:n.next=-1) :
  Calls Tryz.prog 178 #[.pointer (some ⟨c,0,none⟩),.int .i64 (i:Int)] w fun e w'=>e=.returned (.tuple #[])/\Asked w w' base c v pt q lim st L B H (askF E lim L (i:Int)) (i:Int):=by
 have hlt:i<L.length:=Z128
 obtain⟨g,cap,rfl,hb,hgl,hne,hnq,hcap,cells,hg⟩:=HL.form (Z1)
 have HA:=As.mk (ask_last (E:=E) (lim:=lim) hi hn)
 have a2:=(HL.elem hi).1 2 _ rfl
 rw[hn]at a2
 have c1:=HL.c.2.1
 have HL:=As.mk HL
 have HQ:=As.mk HQ
 have hiI:(i:Int)<(L.length:Int):=Z1
 have hi0:(0:Int)≤(i:Int):=Z1
 have hi1:((i:Int)==-1)=false:=Z182
 rename_i x1 x2
 clear x1 x2 hi hn hg hlt
 go_enter Tryz.func178,Tryz.ntmps178
 go_wp2
 refine bodyPost_ret (results_none rfl _ _ _) rfl ?_
 exact⟨rfl,HL.out,Below.refl _ _,H,by rw[HA.out];rfl,HpOf.more HQ.out⟩
end Go.Proofs.YtkffhgiiejbnaaaGreat.Ch
namespace Go.Proofs.YtkffhgiiejbnaaaGreat.Ch
open Go.RowKit YtkffhgiiejbnaaaGreatW.PrintWords YtkffhgiiejbnaaaGreatW.PrintLast YtkffhgiiejbnaaaGreatW.PrintMore Aid Mp Hp Hq Tk
theorem asks_two {w:World} {base c:Nat} {v:Value} {pt q:Nat} {lim st:Int} {L:List Nd} {B:Nat} {H:List (Th Wx)} {E:List Ent} (HL:LkAt w base c v pt q lim st L) (HQ:HpOf w base q B H) (HT:TabAt w pt E) (i j:Nat) {n m:Nd} (hi:L[i]?=some n) (hn:n.next=(j:Int)) (hj:L[j]?=some m) (hHl:H.length≤900000000) (hB:B≤900000000) :
  Calls Tryz.prog 178 #[.pointer (some ⟨c,0,none⟩),.int .i64 (i:Int)] w fun e w'=>e=.returned (.tuple #[])/\Asked w w' base c v pt q lim st L B H (askF E lim L (i:Int)) (i:Int):=by
 have hlt:i<L.length:=Z128
 have hltj:j<L.length:=Z129
 obtain⟨g,cap,rfl,hb,hgl,hne,hnq,hcap,cells,hg⟩:=HL.form (Z1)
 have HA:=As.mk (ask_two (E:=E) (lim:=lim) hi hn hj)
 have HX:=As.mk hi
 have HY:=As.mk hj
 have c1:=HL.c.2.1
 have a2:=(HL.elem hi).1 2 _ rfl
 rw[hn]at a2
 have HNX:=As.mk hn
 have HL:=As.mk HL
 have HQ:=As.mk HQ
 have HT:=As.mk HT
 have hiI:(i:Int)<(L.length:Int):=Z1
 have hi0:(0:Int)≤(i:Int):=Z1
 have hjI:(j:Int)<(L.length:Int):=Z1
 have hj0:(0:Int)≤(j:Int):=Z1
 have hi1:((i:Int)==-1)=false:=Z182
 have hj1:((j:Int)==-1)=false:=Z183
 have HBD:=As.mk (And.intro hHl hB)
 rename_i x1 x2 x3
 clear x1 x2 x3 hi hn hj hg hlt hltj hHl hB
 obtain⟨nid,na,nn⟩:=n
 obtain⟨mid,ma,mn⟩:=m
 simp only at HA HNX a2
 have hNX:=HNX.out
 subst hNX
 clear HNX
 go_enter Tryz.func178,Tryz.ntmps178
 go_wp2
 clear c1 a2
 refine start_ (n:=26) (S:=fun w'=>Below w.heap.size w w') (ds:=[25]) #[false,false,false,false,false,false,false,false,false,false,false,false,false,false,false,false,false,false,false,false,false,false,false,false,false,false] (Z15) rfl rfl (below_drew1 (Below.refl _ _)) (fun hHeld=>?_)
 have HW9:=As.mk hHeld;clear hHeld;generalize w.drew=w9 at HW9 ⊢;have hHeld:=HW9.out
 refine pI 0 (some 20) (bs 26 1) ?_
 refine pI 1 (some 21) (bs 26 3) ?_
 refine pI 2 (some 22) (bs 26 7) ?_
 refine pI 4 (some 24) (bs 26 23) ?_
 refine pI 8 (some 28) (bs 26 279) ?_
 refine pI 9 (some 29) (bs 26 791) ?_
 refine pI 10 (some 30) (bs 26 1815) ?_
 refine pI 12 (some 32) (bs 26 5911) ?_
 refine pI 13 (some 33) (bs 26 14103) ?_
 refine pI 14 (some 34) (bs 26 30487) ?_
 refine pI 16 (some 36) (bs 26 96023) ?_
 refine tI 3 (some 23) (bs 26 96031) rfl (Z130) hHeld ?_
 refine pI 5 (some 25) (bs 26 96063) ?_
 refine pI 6 (some 26) (bs 26 96127) ?_
 refine tI 7 (some 27) (bs 26 96255) rfl (Z130) hHeld ?_
 refine tI 11 (some 31) (bs 26 98303) rfl (Z130) hHeld ?_
 refine tI 15 (some 35) (bs 26 131071) rfl (Z130) hHeld ?_
 refine pI 17 (some 37) (bs 26 262143) ?_
 refine pI 18 (some 38) (bs 26 524287) ?_
 refine tI 19 (some 39) (bs 26 1048575) rfl (Z130) hHeld ?_
 refine pI 20 (some 40) (bs 26 2097151) ?_
 refine pI 21 (some 41) (bs 26 4194303) ?_
 refine tI 22 (some 42) (bs 26 8388607) rfl (Z130) hHeld ?_
 refine pI 23 (some 43) (bs 26 16777215) ?_
 refine one_ (i:=24) (N:=some 4) (bs 26 33554431) rfl rfl (Z15) (Z31) (fun K hK=>?_)
 refine value_ (w1:=w9.alloc (.cells #[.int .i64 0,.int .i64 0] 91)) (v:=.pointer (some ⟨w9.heap.size,0,none⟩)) (by rfl) rfl ?_ ?_
 ·first|(go_simp;done)|(go_simp;rfl)
 refine hK.out _ _ (below_alloc HW9.out _) (fun hHeld=>?_)
 clear hK K
 refine nI ?_
 refine last_ (i:=25) (N:=none) (bs 26 67108863) rfl rfl (Z15) (Z31) (fun K hK=>?_)
 refine skip_ (w1:=w9.alloc (.cells #[.int .i64 nid,.int .i64 mid] 91)) (by rfl) rfl ?_ ?_
 ·first|(go_simp;done)|(go_simp;rfl)
 refine hK.out _ _ ?_
 clear hK K
 refine done_ (Z15) ?_
 have hba:=below_alloc (Below.refl w9.heap.size w9) (.cells #[.int .i64 nid,.int .i64 mid] 91)
 have HB2:=As.mk (bt_ HW9.out hba)
 have HM2:=As.mk (Go.MapKept.heap_alloc w9 (.cells #[.int .i64 nid,.int .i64 mid] 91)).1
 clear hba HW9 hHeld
 generalize w9.alloc (.cells #[.int .i64 nid,.int .i64 mid] 91)=w2 at HB2 HM2 ⊢
 go_wp2
 cases hp:pairP E nid mid with
 | none =>
  rw[hp]at HA
  have HPP:=As.mk hp
  clear hp
  refine start_ (n:=14) (S:=fun w'=>Below w2.heap.size w2 w') (ds:=[]) #[false,false,false,false,false,false,false,false,false,false,false,false,false,false] (Z15) rfl rfl (below_drew1 (Below.refl _ _)) (fun hHeld=>?_)
  have HW3:=As.mk hHeld;clear hHeld;generalize w2.drew=w3 at HW3 ⊢;have hHeld:=HW3.out
  refine pI 0 (some 45) (bs 14 1) ?_
  refine pI 1 (some 46) (bs 14 3) ?_
  refine pI 2 (some 47) (bs 14 7) ?_
  refine pI 4 (some 49) (bs 14 23) ?_
  refine pI 6 (some 51) (bs 14 87) ?_
  refine tI 3 (some 48) (bs 14 95) rfl (Z131) hHeld ?_
  refine tI 5 (some 50) (bs 14 127) rfl (Z131) hHeld ?_
  refine tI 7 (some 52) (bs 14 255) rfl (Z131) hHeld ?_
  refine one_ (i:=8) (N:=some 53) (bs 14 511) rfl rfl (Z15) (Z31) (fun K hK=>?_)
  refine goes_ Tryz.func182 (Z15) rfl #[.pointer (some ⟨pt,0,none⟩),.int .i64 nid,.int .i64 mid] (by rfl) rfl rfl (Z101) ?_
  have hpa:=pair_any (HT.out.below (bt_ HB2.out HW3.out)) nid mid
  rw[HPP.out]at hpa
  refine hpa.mono ?_
  clear hpa
  rintro e w10 ⟨rfl,rfl⟩
  refine⟨_,rfl,?_⟩
  refine hK.out _ _ HW3.out (fun _=>?_)
  clear hK K hHeld
  refine nI ?_
  refine pI 9 (some 44) (bs 14 1023) ?_
  refine pI 10 (some 54) (bs 14 2047) ?_
  refine pI 11 (some 55) (bs 14 4095) ?_
  refine pI 12 (some 5) (bs 14 8191) ?_
  refine pI 13 (some 6) (bs 14 16383) ?_
  refine done_ (Z15) ?_
  go_wp2
  go_end0
  have HB3:=bt_ HB2.out HW3.out
  exact⟨rfl,HL.out.below HB3,HB3.mono (Nat.le_trans HL.out.le (Nat.le_of_lt HL.out.lt)),H,by rw[HA.out];rfl,HpOf.more (HQ.out.below HB3)⟩
 | some r =>
  rw[hp]at HA
  have HPP:=As.mk hp
  clear hp
  by_cases hr:(r:Int)<lim
  ·simp only[if_pos hr]at HA
   refine start_ (n:=14) (S:=fun w'=>Below w2.heap.size w2 w') (ds:=[]) #[false,false,false,false,false,false,false,false,false,false,false,false,false,false] (Z15) rfl rfl (below_drew1 (Below.refl _ _)) (fun hHeld=>?_)
   have HW3:=As.mk hHeld;clear hHeld;generalize w2.drew=w3 at HW3 ⊢;have hHeld:=HW3.out
   refine pI 0 (some 45) (bs 14 1) ?_
   refine pI 1 (some 46) (bs 14 3) ?_
   refine pI 2 (some 47) (bs 14 7) ?_
   refine pI 4 (some 49) (bs 14 23) ?_
   refine pI 6 (some 51) (bs 14 87) ?_
   refine tI 3 (some 48) (bs 14 95) rfl (Z131) hHeld ?_
   refine tI 5 (some 50) (bs 14 127) rfl (Z131) hHeld ?_
   refine tI 7 (some 52) (bs 14 255) rfl (Z131) hHeld ?_
   refine one_ (i:=8) (N:=some 53) (bs 14 511) rfl rfl (Z15) (Z31) (fun K hK=>?_)
   refine goes_ Tryz.func182 (Z15) rfl #[.pointer (some ⟨pt,0,none⟩),.int .i64 nid,.int .i64 mid] (by rfl) rfl rfl (Z101) ?_
   have hpa:=pair_any (HT.out.below (bt_ HB2.out HW3.out)) nid mid
   rw[HPP.out]at hpa
   refine hpa.mono ?_
   clear hpa
   rintro e w10 ⟨rfl,rfl⟩
   refine⟨_,rfl,?_⟩
   refine hK.out _ _ HW3.out (fun _=>?_)
   clear hK K hHeld
   refine nI ?_
   refine pI 9 (some 44) (bs 14 1023) ?_
   refine pI 10 (some 54) (bs 14 2047) ?_
   refine pI 11 (some 55) (bs 14 4095) ?_
   refine pI 12 (some 5) (bs 14 8191) ?_
   refine pI 13 (some 6) (bs 14 16383) ?_
   refine done_ (Z15) ?_
   have c3:=(HL.out.below (bt_ HB2.out HW3.out)).c.2.2.2.1
   have HB3:=As.mk (bt_ HB2.out HW3.out)
   have HM3:=As.mk ((HW3.out.block _ (blk_lt HM2.out)).trans HM2.out)
   clear HW3 HB2 HM2
   go_wp2
   clear c3
   refine start_ (n:=10) (S:=fun w'=>Below w3.heap.size w3 w') (ds:=[9]) #[false,false,false,false,false,false,false,false,false,false] (Z15) rfl rfl (below_drew1 (Below.refl _ _)) (fun hHeld=>?_)
   have HW4:=As.mk hHeld;clear hHeld;generalize w3.drew=w4 at HW4 ⊢;have hHeld:=HW4.out
   refine pI 0 (some 65) (bs 10 1) ?_
   refine pI 1 (some 66) (bs 10 3) ?_
   refine pI 2 (some 67) (bs 10 7) ?_
   refine pI 4 (some 69) (bs 10 23) ?_
   refine pI 5 (some 70) (bs 10 55) ?_
   refine pI 6 (some 71) (bs 10 119) ?_
   refine tI 3 (some 68) (bs 10 127) rfl (Z132) hHeld ?_
   refine tI 7 (some 72) (bs 10 255) rfl (Z132) hHeld ?_
   refine pI 8 (some 73) (bs 10 511) ?_
   refine last_ (i:=9) (N:=some 74) (bs 10 1023) rfl rfl (Z15) (Z31) (fun K hK=>?_)
   refine goes_ Tryz.func183 (Z15) rfl #[.pointer (some ⟨q,0,none⟩),.int .i64 (r:Int),.int .i64 (i:Int),.agg #[.int .i64 (i:Int),.int .i64 nid,.int .i64 mid]] (by rfl) rfl rfl (Z101) ?_
   refine(push_any (HQ.out.below (bt_ HB3.out HW4.out)) (r:Int) (i:Int) (i:Int) nid mid HBD.out.1 HBD.out.2).mono ?_
   rintro e w5 ⟨rfl,hqq,hbb,hkk⟩
   refine⟨_,rfl,?_⟩
   have HQ5:=As.mk hqq
   have HB5:=As.mk (((bt_ HB3.out HW4.out).mono (Nat.le_trans HL.out.le (Nat.le_of_lt HL.out.lt))).trans hbb)
   have HL5:=As.mk ((HL.out.below (bt_ HB3.out HW4.out)).kept hkk (HpOf.qt hqq.choose_spec))
   clear hqq hbb hkk hHeld
   refine hK.out _ _ ?_
   clear hK K
   refine done_ (Z15) ?_
   go_wp2
   go_end0
   obtain⟨t,ht⟩:=HQ5.out
   exact⟨rfl,HL5.out,HB5.out,_,by rw[HA.out];exact⟨t,rfl⟩,ht⟩
  ·simp only[if_neg hr]at HA
   refine start_ (n:=14) (S:=fun w'=>Below w2.heap.size w2 w') (ds:=[]) #[false,false,false,false,false,false,false,false,false,false,false,false,false,false] (Z15) rfl rfl (below_drew1 (Below.refl _ _)) (fun hHeld=>?_)
   have HW3:=As.mk hHeld;clear hHeld;generalize w2.drew=w3 at HW3 ⊢;have hHeld:=HW3.out
   refine pI 0 (some 45) (bs 14 1) ?_
   refine pI 1 (some 46) (bs 14 3) ?_
   refine pI 2 (some 47) (bs 14 7) ?_
   refine pI 4 (some 49) (bs 14 23) ?_
   refine pI 6 (some 51) (bs 14 87) ?_
   refine tI 3 (some 48) (bs 14 95) rfl (Z131) hHeld ?_
   refine tI 5 (some 50) (bs 14 127) rfl (Z131) hHeld ?_
   refine tI 7 (some 52) (bs 14 255) rfl (Z131) hHeld ?_
   refine one_ (i:=8) (N:=some 53) (bs 14 511) rfl rfl (Z15) (Z31) (fun K hK=>?_)
   refine goes_ Tryz.func182 (Z15) rfl #[.pointer (some ⟨pt,0,none⟩),.int .i64 nid,.int .i64 mid] (by rfl) rfl rfl (Z101) ?_
   have hpa:=pair_any (HT.out.below (bt_ HB2.out HW3.out)) nid mid
   rw[HPP.out]at hpa
   refine hpa.mono ?_
   clear hpa
   rintro e w10 ⟨rfl,rfl⟩
   refine⟨_,rfl,?_⟩
   refine hK.out _ _ HW3.out (fun _=>?_)
   clear hK K hHeld
   refine nI ?_
   refine pI 9 (some 44) (bs 14 1023) ?_
   refine pI 10 (some 54) (bs 14 2047) ?_
   refine pI 11 (some 55) (bs 14 4095) ?_
   refine pI 12 (some 5) (bs 14 8191) ?_
   refine pI 13 (some 6) (bs 14 16383) ?_
   refine done_ (Z15) ?_
   have c3:=(HL.out.below (bt_ HB2.out HW3.out)).c.2.2.2.1
   go_wp2
   go_end0
   have HB3:=bt_ HB2.out HW3.out
   exact⟨rfl,HL.out.below HB3,HB3.mono (Nat.le_trans HL.out.le (Nat.le_of_lt HL.out.lt)),H,by rw[HA.out];rfl,HpOf.more (HQ.out.below HB3)⟩
end Go.Proofs.YtkffhgiiejbnaaaGreat.Ch
namespace Go.Proofs.YtkffhgiiejbnaaaGreat.Ch
open Go.RowKit YtkffhgiiejbnaaaGreatW.PrintWords YtkffhgiiejbnaaaGreatW.PrintLast YtkffhgiiejbnaaaGreatW.PrintMore Aid Mp Hp Hq Tk
def Goes (L:List Nd) (n:Nd):Prop:=n.next=-1\/∃ (j:Nat) (m:Nd),n.next=(j:Int)/\L[j]?=some m
theorem asks_any {w:World} {base c:Nat} {v:Value} {pt q:Nat} {lim st:Int} {L:List Nd} {B:Nat} {H:List (Th Wx)} {E:List Ent} (HL:LkAt w base c v pt q lim st L) (HQ:HpOf w base q B H) (HT:TabAt w pt E) (i:Int) (hi:i=-1\/∃ (k:Nat) (n:Nd),i=(k:Int)/\L[k]?=some n/\Goes L n) (hHl:H.length≤900000000) (hB:B≤900000000) :
  Calls Tryz.prog 178 #[.pointer (some ⟨c,0,none⟩),.int .i64 i] w fun e w'=>e=.returned (.tuple #[])/\Asked w w' base c v pt q lim st L B H (askF E lim L i) i:=by
 rcases hi with rfl|⟨k,n,rfl,hk,hn|⟨j,m,hn,hm⟩⟩
 ·exact asks_end HL HQ
 ·exact asks_last HL HQ k hk hn
 ·exact asks_two HL HQ HT k j hk hn hm hHl hB
theorem stale_id {w:World} {base c:Nat} {v:Value} {pt q:Nat} {lim st:Int} {L:List Nd} (HL:LkAt w base c v pt q lim st L) (f:Nat) (a b:Int) {n:Nd} (hf:L[f]?=some n) (hne2:n.id≠a) :
  Calls Tryz.prog 180 #[.pointer (some ⟨c,0,none⟩),.agg #[.int .i64 (f:Int),.int .i64 a,.int .i64 b]] w fun e w'=>e=.returned (.bool true)/\Below w.heap.size w w':=by
 have hlt:f<L.length:=Z133
 obtain⟨g,cap,rfl,hb,hgl,hne,hnq,hcap,cells,hg⟩:=HL.form (Z1)
 have HX:=As.mk hf
 have hiI:(f:Int)<(L.length:Int):=Z1
 have hi0:(0:Int)≤(f:Int):=Z1
 have e1:(n.id != a)=true:=by simpa using hne2
 clear hne2
 have HL:=As.mk HL
 rename_i x1
 clear x1 hf hg hlt
 go_enter Tryz.func180,Tryz.ntmps180
 go_wp2
 have HB1:=As.mk (below_alloc (Below.refl w.heap.size w) (.cells #[.int .i64 (f:Int),.int .i64 a,.int .i64 b] 275))
 have HM1:=As.mk (Go.MapKept.heap_alloc w (.cells #[.int .i64 (f:Int),.int .i64 a,.int .i64 b] 275)).1
 generalize w.alloc (.cells #[.int .i64 (f:Int),.int .i64 a,.int .i64 b] 275)=w1 at HB1 HM1 ⊢
 refine start_ (n:=10) (S:=fun w'=>Below w1.heap.size w1 w') (ds:=[9]) #[false,false,false,false,false,false,false,false,false,false] (Z15) rfl rfl (below_drew1 (Below.refl _ _)) (fun hHeld=>?_)
 have HW9:=As.mk hHeld;clear hHeld;generalize w1.drew=w9 at HW9 ⊢;have hHeld:=HW9.out
 refine pI 0 (some 6) (bs 10 1) ?_
 refine pI 1 (some 7) (bs 10 3) ?_
 refine pI 2 (some 8) (bs 10 7) ?_
 refine pI 4 (some 10) (bs 10 23) ?_
 refine tI 3 (some 9) (bs 10 31) rfl (Z134) hHeld ?_
 refine tI 5 (some 11) (bs 10 63) rfl (Z134) hHeld ?_
 refine pI 6 (some 12) (bs 10 127) ?_
 refine tI 7 (some 13) (bs 10 255) rfl (Z134) hHeld ?_
 refine one_ (i:=8) (N:=some 5) (bs 10 511) rfl rfl (Z15) (Z31) (fun K hK=>?_)
 refine value_ (w1:=w9.alloc (.cells #[.int .i64 0,.int .i64 0,.int .i64 0] 280)) (v:=.pointer (some ⟨w9.heap.size,0,none⟩)) (by rfl) rfl ?_ ?_
 ·first|(go_simp;done)|(go_simp;rfl)
 refine hK.out _ _ (below_alloc HW9.out _) (fun hHeld=>?_)
 clear hK K
 refine nI ?_
 refine last_ (i:=9) (N:=none) (bs 10 1023) rfl rfl (Z15) (Z31) (fun K hK=>?_)
 refine skip_ (w1:=w9.alloc (.cells #[.int .i64 n.id,.int .i64 n.ahead,.int .i64 n.next] 280)) (by rfl) rfl ?_ ?_
 ·first|(go_simp;done)|(go_simp;rfl)
 refine hK.out _ _ ?_
 clear hK K
 refine done_ (Z15) ?_
 have hba:=below_alloc (Below.refl w9.heap.size w9) (.cells #[.int .i64 n.id,.int .i64 n.ahead,.int .i64 n.next] 280)
 have HB2:=As.mk (bt_ (bt_ HB1.out HW9.out) hba)
 have HN2:=As.mk (Go.MapKept.heap_alloc w9 (.cells #[.int .i64 n.id,.int .i64 n.ahead,.int .i64 n.next] 280)).1
 have HM2:=As.mk ((hba.block _ (blk_lt ((HW9.out.block _ (blk_lt HM1.out)).trans HM1.out))).trans ((HW9.out.block _ (blk_lt HM1.out)).trans HM1.out))
 clear hba HW9 hHeld HB1 HM1
 generalize w9.alloc (.cells #[.int .i64 n.id,.int .i64 n.ahead,.int .i64 n.next] 280)=w2 at HB2 HM2 HN2 ⊢
 go_wp2
 refine start_ (n:=27) (S:=fun w'=>Below w2.heap.size w2 w') (ds:=[]) #[false,false,false,false,false,false,false,false,false,false,false,false,false,false,false,false,false,false,false,false,false,false,false,false,false,false,false] (Z15) rfl rfl (below_drew1 (Below.refl _ _)) (fun hHeld=>?_)
 have HW3:=As.mk hHeld;clear hHeld;generalize w2.drew=w3 at HW3 ⊢;have hHeld:=HW3.out
 refine pI 0 (some 14) (bs 27 1) ?_
 refine pI 2 (some 16) (bs 27 5) ?_
 refine pI 3 (some 17) (bs 27 13) ?_
 refine tI 1 (some 15) (bs 27 15) rfl (Z135) hHeld ?_
 refine tI 4 (some 18) (bs 27 31) rfl (Z135) hHeld ?_
 refine pI 5 (some 19) (bs 27 63) ?_
 refine pI 6 (some 20) (bs 27 127) ?_
 refine pO 7 (some 21) (bs 27 255) ?_
 refine pO 8 (some 22) (bs 27 511) ?_
 refine pO 9 (some 23) (bs 27 1023) ?_
 refine pI 10 (some 24) (bs 27 2047) ?_
 refine pI 11 (some 25) (bs 27 4095) ?_
 refine pO 12 (some 26) (bs 27 8191) ?_
 refine pO 13 (some 27) (bs 27 16383) ?_
 refine pO 14 (some 28) (bs 27 32767) ?_
 refine pO 16 (some 30) (bs 27 98303) ?_
 refine pO 21 (some 35) (bs 27 2195455) ?_
 refine pO 22 (some 36) (bs 27 6389759) ?_
 refine pO 15 (some 29) (bs 27 6422527) ?_
 refine pO 17 (some 31) (bs 27 6553599) ?_
 refine pO 18 (some 32) (bs 27 6815743) ?_
 refine pO 19 (some 33) (bs 27 7340031) ?_
 refine pO 20 (some 34) (bs 27 8388607) ?_
 refine pO 23 (some 37) (bs 27 16777215) ?_
 refine pO 24 (some 38) (bs 27 33554431) ?_
 refine pI 25 (some 39) (bs 27 67108863) ?_
 refine pI 26 (some 4) (bs 27 134217727) ?_
 refine done_ (Z15) ?_
 go_wp2
 go_ret
 exact⟨rfl,bt_ HB2.out HW3.out⟩
theorem stale_end {w:World} {base c:Nat} {v:Value} {pt q:Nat} {lim st:Int} {L:List Nd} (HL:LkAt w base c v pt q lim st L) (f:Nat) (a b:Int) {n:Nd} (hf:L[f]?=some n) (hid:n.id=a) (hnx:n.next=-1) :
  Calls Tryz.prog 180 #[.pointer (some ⟨c,0,none⟩),.agg #[.int .i64 (f:Int),.int .i64 a,.int .i64 b]] w fun e w'=>e=.returned (.bool true)/\Below w.heap.size w w':=by
 have hlt:f<L.length:=Z133
 obtain⟨g,cap,rfl,hb,hgl,hne,hnq,hcap,cells,hg⟩:=HL.form (Z1)
 have HX:=As.mk hf
 have hiI:(f:Int)<(L.length:Int):=Z1
 have hi0:(0:Int)≤(f:Int):=Z1
 have e1:(a != a)=false:=by simp
 obtain⟨nid,na,nn⟩:=n
 simp only at hid hnx
 have hid2:=hid.symm
 subst hid2
 subst hnx
 have HL:=As.mk HL
 rename_i x1
 clear x1 hf hg hlt
 go_enter Tryz.func180,Tryz.ntmps180
 go_wp2
 have HB1:=As.mk (below_alloc (Below.refl w.heap.size w) (.cells #[.int .i64 (f:Int),.int .i64 a,.int .i64 b] 275))
 have HM1:=As.mk (Go.MapKept.heap_alloc w (.cells #[.int .i64 (f:Int),.int .i64 a,.int .i64 b] 275)).1
 generalize w.alloc (.cells #[.int .i64 (f:Int),.int .i64 a,.int .i64 b] 275)=w1 at HB1 HM1 ⊢
 refine start_ (n:=10) (S:=fun w'=>Below w1.heap.size w1 w') (ds:=[9]) #[false,false,false,false,false,false,false,false,false,false] (Z15) rfl rfl (below_drew1 (Below.refl _ _)) (fun hHeld=>?_)
 have HW9:=As.mk hHeld;clear hHeld;generalize w1.drew=w9 at HW9 ⊢;have hHeld:=HW9.out
 refine pI 0 (some 6) (bs 10 1) ?_
 refine pI 1 (some 7) (bs 10 3) ?_
 refine pI 2 (some 8) (bs 10 7) ?_
 refine pI 4 (some 10) (bs 10 23) ?_
 refine tI 3 (some 9) (bs 10 31) rfl (Z134) hHeld ?_
 refine tI 5 (some 11) (bs 10 63) rfl (Z134) hHeld ?_
 refine pI 6 (some 12) (bs 10 127) ?_
 refine tI 7 (some 13) (bs 10 255) rfl (Z134) hHeld ?_
 refine one_ (i:=8) (N:=some 5) (bs 10 511) rfl rfl (Z15) (Z31) (fun K hK=>?_)
 refine value_ (w1:=w9.alloc (.cells #[.int .i64 0,.int .i64 0,.int .i64 0] 280)) (v:=.pointer (some ⟨w9.heap.size,0,none⟩)) (by rfl) rfl ?_ ?_
 ·first|(go_simp;done)|(go_simp;rfl)
 refine hK.out _ _ (below_alloc HW9.out _) (fun hHeld=>?_)
 clear hK K
 refine nI ?_
 refine last_ (i:=9) (N:=none) (bs 10 1023) rfl rfl (Z15) (Z31) (fun K hK=>?_)
 refine skip_ (w1:=w9.alloc (.cells #[.int .i64 a,.int .i64 na,.int .i64 (-1)] 280)) (by rfl) rfl ?_ ?_
 ·first|(go_simp;done)|(go_simp;rfl)
 refine hK.out _ _ ?_
 clear hK K
 refine done_ (Z15) ?_
 have hba:=below_alloc (Below.refl w9.heap.size w9) (.cells #[.int .i64 a,.int .i64 na,.int .i64 (-1)] 280)
 have HB2:=As.mk (bt_ (bt_ HB1.out HW9.out) hba)
 have HN2:=As.mk (Go.MapKept.heap_alloc w9 (.cells #[.int .i64 a,.int .i64 na,.int .i64 (-1)] 280)).1
 have HM2:=As.mk ((hba.block _ (blk_lt ((HW9.out.block _ (blk_lt HM1.out)).trans HM1.out))).trans ((HW9.out.block _ (blk_lt HM1.out)).trans HM1.out))
 clear hba HW9 hHeld HB1 HM1
 generalize w9.alloc (.cells #[.int .i64 a,.int .i64 na,.int .i64 (-1)] 280)=w2 at HB2 HM2 HN2 ⊢
 go_wp2
 refine start_ (n:=27) (S:=fun w'=>Below w2.heap.size w2 w') (ds:=[]) #[false,false,false,false,false,false,false,false,false,false,false,false,false,false,false,false,false,false,false,false,false,false,false,false,false,false,false] (Z15) rfl rfl (below_drew1 (Below.refl _ _)) (fun hHeld=>?_)
 have HW3:=As.mk hHeld;clear hHeld;generalize w2.drew=w3 at HW3 ⊢;have hHeld:=HW3.out
 refine pI 0 (some 14) (bs 27 1) ?_
 refine pI 2 (some 16) (bs 27 5) ?_
 refine pI 3 (some 17) (bs 27 13) ?_
 refine tI 1 (some 15) (bs 27 15) rfl (Z135) hHeld ?_
 refine tI 4 (some 18) (bs 27 31) rfl (Z135) hHeld ?_
 refine pI 5 (some 19) (bs 27 63) ?_
 refine pI 6 (some 20) (bs 27 127) ?_
 refine pI 7 (some 21) (bs 27 255) ?_
 refine tI 8 (some 22) (bs 27 511) rfl (Z135) hHeld ?_
 refine pI 9 (some 23) (bs 27 1023) ?_
 refine pI 10 (some 24) (bs 27 2047) ?_
 refine pI 11 (some 25) (bs 27 4095) ?_
 refine pO 12 (some 26) (bs 27 8191) ?_
 refine pO 13 (some 27) (bs 27 16383) ?_
 refine pO 14 (some 28) (bs 27 32767) ?_
 refine pO 16 (some 30) (bs 27 98303) ?_
 refine pO 21 (some 35) (bs 27 2195455) ?_
 refine pO 22 (some 36) (bs 27 6389759) ?_
 refine pO 15 (some 29) (bs 27 6422527) ?_
 refine pO 17 (some 31) (bs 27 6553599) ?_
 refine pO 18 (some 32) (bs 27 6815743) ?_
 refine pO 19 (some 33) (bs 27 7340031) ?_
 refine pO 20 (some 34) (bs 27 8388607) ?_
 refine pO 23 (some 37) (bs 27 16777215) ?_
 refine pO 24 (some 38) (bs 27 33554431) ?_
 refine pI 25 (some 39) (bs 27 67108863) ?_
 refine pI 26 (some 4) (bs 27 134217727) ?_
 refine done_ (Z15) ?_
 go_wp2
 go_ret
 exact⟨rfl,bt_ HB2.out HW3.out⟩
theorem stale_two {w:World} {base c:Nat} {v:Value} {pt q:Nat} {lim st:Int} {L:List Nd} (HL:LkAt w base c v pt q lim st L) (f:Nat) (a b:Int) {n:Nd} (hf:L[f]?=some n) {m:Nd} (j:Nat) (hid:n.id=a) (hnx:n.next=(j:Int)) (hj:L[j]?=some m) (hmb:m.id≠b) :
  Calls Tryz.prog 180 #[.pointer (some ⟨c,0,none⟩),.agg #[.int .i64 (f:Int),.int .i64 a,.int .i64 b]] w fun e w'=>e=.returned (.bool true)/\Below w.heap.size w w':=by
 have hlt:f<L.length:=Z133
 obtain⟨g,cap,rfl,hb,hgl,hne,hnq,hcap,cells,hg⟩:=HL.form (Z1)
 have HX:=As.mk hf
 have hiI:(f:Int)<(L.length:Int):=Z1
 have hi0:(0:Int)≤(f:Int):=Z1
 have hltj:j<L.length:=Z129
 have HY:=As.mk hj
 have hjI:(j:Int)<(L.length:Int):=Z1
 have hj0:(0:Int)≤(j:Int):=Z1
 have hj1:((j:Int)==-1)=false:=Z183
 have e1:(a != a)=false:=by simp
 obtain⟨nid,na,nn⟩:=n
 simp only at hid hnx
 have hid2:=hid.symm
 subst hid2
 subst hnx
 clear hj hltj
 have e2:(m.id != b)=true:=by simpa using hmb
 clear hmb
 have HL:=As.mk HL
 rename_i x1
 clear x1 hf hg hlt
 go_enter Tryz.func180,Tryz.ntmps180
 go_wp2
 have HB1:=As.mk (below_alloc (Below.refl w.heap.size w) (.cells #[.int .i64 (f:Int),.int .i64 a,.int .i64 b] 275))
 have HM1:=As.mk (Go.MapKept.heap_alloc w (.cells #[.int .i64 (f:Int),.int .i64 a,.int .i64 b] 275)).1
 generalize w.alloc (.cells #[.int .i64 (f:Int),.int .i64 a,.int .i64 b] 275)=w1 at HB1 HM1 ⊢
 refine start_ (n:=10) (S:=fun w'=>Below w1.heap.size w1 w') (ds:=[9]) #[false,false,false,false,false,false,false,false,false,false] (Z15) rfl rfl (below_drew1 (Below.refl _ _)) (fun hHeld=>?_)
 have HW9:=As.mk hHeld;clear hHeld;generalize w1.drew=w9 at HW9 ⊢;have hHeld:=HW9.out
 refine pI 0 (some 6) (bs 10 1) ?_
 refine pI 1 (some 7) (bs 10 3) ?_
 refine pI 2 (some 8) (bs 10 7) ?_
 refine pI 4 (some 10) (bs 10 23) ?_
 refine tI 3 (some 9) (bs 10 31) rfl (Z134) hHeld ?_
 refine tI 5 (some 11) (bs 10 63) rfl (Z134) hHeld ?_
 refine pI 6 (some 12) (bs 10 127) ?_
 refine tI 7 (some 13) (bs 10 255) rfl (Z134) hHeld ?_
 refine one_ (i:=8) (N:=some 5) (bs 10 511) rfl rfl (Z15) (Z31) (fun K hK=>?_)
 refine value_ (w1:=w9.alloc (.cells #[.int .i64 0,.int .i64 0,.int .i64 0] 280)) (v:=.pointer (some ⟨w9.heap.size,0,none⟩)) (by rfl) rfl ?_ ?_
 ·first|(go_simp;done)|(go_simp;rfl)
 refine hK.out _ _ (below_alloc HW9.out _) (fun hHeld=>?_)
 clear hK K
 refine nI ?_
 refine last_ (i:=9) (N:=none) (bs 10 1023) rfl rfl (Z15) (Z31) (fun K hK=>?_)
 refine skip_ (w1:=w9.alloc (.cells #[.int .i64 a,.int .i64 na,.int .i64 (j:Int)] 280)) (by rfl) rfl ?_ ?_
 ·first|(go_simp;done)|(go_simp;rfl)
 refine hK.out _ _ ?_
 clear hK K
 refine done_ (Z15) ?_
 have hba:=below_alloc (Below.refl w9.heap.size w9) (.cells #[.int .i64 a,.int .i64 na,.int .i64 (j:Int)] 280)
 have HB2:=As.mk (bt_ (bt_ HB1.out HW9.out) hba)
 have HN2:=As.mk (Go.MapKept.heap_alloc w9 (.cells #[.int .i64 a,.int .i64 na,.int .i64 (j:Int)] 280)).1
 have HM2:=As.mk ((hba.block _ (blk_lt ((HW9.out.block _ (blk_lt HM1.out)).trans HM1.out))).trans ((HW9.out.block _ (blk_lt HM1.out)).trans HM1.out))
 clear hba HW9 hHeld HB1 HM1
 generalize w9.alloc (.cells #[.int .i64 a,.int .i64 na,.int .i64 (j:Int)] 280)=w2 at HB2 HM2 HN2 ⊢
 go_wp2
 refine start_ (n:=27) (S:=fun w'=>Below w2.heap.size w2 w') (ds:=[]) #[false,false,false,false,false,false,false,false,false,false,false,false,false,false,false,false,false,false,false,false,false,false,false,false,false,false,false] (Z15) rfl rfl (below_drew1 (Below.refl _ _)) (fun hHeld=>?_)
 have HW3:=As.mk hHeld;clear hHeld;generalize w2.drew=w3 at HW3 ⊢;have hHeld:=HW3.out
 refine pI 0 (some 14) (bs 27 1) ?_
 refine pI 2 (some 16) (bs 27 5) ?_
 refine pI 3 (some 17) (bs 27 13) ?_
 refine tI 1 (some 15) (bs 27 15) rfl (Z136) hHeld ?_
 refine tI 4 (some 18) (bs 27 31) rfl (Z136) hHeld ?_
 refine pI 5 (some 19) (bs 27 63) ?_
 refine pI 6 (some 20) (bs 27 127) ?_
 refine pI 7 (some 21) (bs 27 255) ?_
 refine tI 8 (some 22) (bs 27 511) rfl (Z136) hHeld ?_
 refine pI 9 (some 23) (bs 27 1023) ?_
 refine pI 10 (some 24) (bs 27 2047) ?_
 refine pI 11 (some 25) (bs 27 4095) ?_
 refine pI 12 (some 26) (bs 27 8191) ?_
 refine pI 13 (some 27) (bs 27 16383) ?_
 refine pI 14 (some 28) (bs 27 32767) ?_
 refine pI 16 (some 30) (bs 27 98303) ?_
 refine pI 21 (some 35) (bs 27 2195455) ?_
 refine pI 22 (some 36) (bs 27 6389759) ?_
 refine tI 15 (some 29) (bs 27 6422527) rfl (Z136) hHeld ?_
 refine tI 17 (some 31) (bs 27 6553599) rfl (Z136) hHeld ?_
 refine pI 18 (some 32) (bs 27 6815743) ?_
 refine pI 19 (some 33) (bs 27 7340031) ?_
 refine tI 20 (some 34) (bs 27 8388607) rfl (Z136) hHeld ?_
 refine tI 23 (some 37) (bs 27 16777215) rfl (Z136) hHeld ?_
 refine pI 24 (some 38) (bs 27 33554431) ?_
 refine pI 25 (some 39) (bs 27 67108863) ?_
 refine pI 26 (some 4) (bs 27 134217727) ?_
 refine done_ (Z15) ?_
 go_wp2
 go_ret
 exact⟨rfl,bt_ HB2.out HW3.out⟩
theorem stale_not {w:World} {base c:Nat} {v:Value} {pt q:Nat} {lim st:Int} {L:List Nd} (HL:LkAt w base c v pt q lim st L) (f:Nat) (a b:Int) {n:Nd} (hf:L[f]?=some n) {m:Nd} (j:Nat) (hid:n.id=a) (hnx:n.next=(j:Int)) (hj:L[j]?=some m) (hmb:m.id=b) :
  Calls Tryz.prog 180 #[.pointer (some ⟨c,0,none⟩),.agg #[.int .i64 (f:Int),.int .i64 a,.int .i64 b]] w fun e w'=>e=.returned (.bool false)/\Below w.heap.size w w':=by
 have hlt:f<L.length:=Z133
 obtain⟨g,cap,rfl,hb,hgl,hne,hnq,hcap,cells,hg⟩:=HL.form (Z1)
 have HX:=As.mk hf
 have hiI:(f:Int)<(L.length:Int):=Z1
 have hi0:(0:Int)≤(f:Int):=Z1
 have hltj:j<L.length:=Z129
 have HY:=As.mk hj
 have hjI:(j:Int)<(L.length:Int):=Z1
 have hj0:(0:Int)≤(j:Int):=Z1
 have hj1:((j:Int)==-1)=false:=Z183
 have e1:(a != a)=false:=by simp
 obtain⟨nid,na,nn⟩:=n
 simp only at hid hnx
 have hid2:=hid.symm
 subst hid2
 subst hnx
 clear hj hltj
 have e2:(b != b)=false:=by simp
 obtain⟨mid,ma,mn⟩:=m
 simp only at hmb
 have hmb2:=hmb.symm
 subst hmb2
 have HL:=As.mk HL
 rename_i x1
 clear x1 hf hg hlt
 go_enter Tryz.func180,Tryz.ntmps180
 go_wp2
 have HB1:=As.mk (below_alloc (Below.refl w.heap.size w) (.cells #[.int .i64 (f:Int),.int .i64 a,.int .i64 b] 275))
 have HM1:=As.mk (Go.MapKept.heap_alloc w (.cells #[.int .i64 (f:Int),.int .i64 a,.int .i64 b] 275)).1
 generalize w.alloc (.cells #[.int .i64 (f:Int),.int .i64 a,.int .i64 b] 275)=w1 at HB1 HM1 ⊢
 refine start_ (n:=10) (S:=fun w'=>Below w1.heap.size w1 w') (ds:=[9]) #[false,false,false,false,false,false,false,false,false,false] (Z15) rfl rfl (below_drew1 (Below.refl _ _)) (fun hHeld=>?_)
 have HW9:=As.mk hHeld;clear hHeld;generalize w1.drew=w9 at HW9 ⊢;have hHeld:=HW9.out
 refine pI 0 (some 6) (bs 10 1) ?_
 refine pI 1 (some 7) (bs 10 3) ?_
 refine pI 2 (some 8) (bs 10 7) ?_
 refine pI 4 (some 10) (bs 10 23) ?_
 refine tI 3 (some 9) (bs 10 31) rfl (Z134) hHeld ?_
 refine tI 5 (some 11) (bs 10 63) rfl (Z134) hHeld ?_
 refine pI 6 (some 12) (bs 10 127) ?_
 refine tI 7 (some 13) (bs 10 255) rfl (Z134) hHeld ?_
 refine one_ (i:=8) (N:=some 5) (bs 10 511) rfl rfl (Z15) (Z31) (fun K hK=>?_)
 refine value_ (w1:=w9.alloc (.cells #[.int .i64 0,.int .i64 0,.int .i64 0] 280)) (v:=.pointer (some ⟨w9.heap.size,0,none⟩)) (by rfl) rfl ?_ ?_
 ·first|(go_simp;done)|(go_simp;rfl)
 refine hK.out _ _ (below_alloc HW9.out _) (fun hHeld=>?_)
 clear hK K
 refine nI ?_
 refine last_ (i:=9) (N:=none) (bs 10 1023) rfl rfl (Z15) (Z31) (fun K hK=>?_)
 refine skip_ (w1:=w9.alloc (.cells #[.int .i64 a,.int .i64 na,.int .i64 (j:Int)] 280)) (by rfl) rfl ?_ ?_
 ·first|(go_simp;done)|(go_simp;rfl)
 refine hK.out _ _ ?_
 clear hK K
 refine done_ (Z15) ?_
 have hba:=below_alloc (Below.refl w9.heap.size w9) (.cells #[.int .i64 a,.int .i64 na,.int .i64 (j:Int)] 280)
 have HB2:=As.mk (bt_ (bt_ HB1.out HW9.out) hba)
 have HN2:=As.mk (Go.MapKept.heap_alloc w9 (.cells #[.int .i64 a,.int .i64 na,.int .i64 (j:Int)] 280)).1
 have HM2:=As.mk ((hba.block _ (blk_lt ((HW9.out.block _ (blk_lt HM1.out)).trans HM1.out))).trans ((HW9.out.block _ (blk_lt HM1.out)).trans HM1.out))
 clear hba HW9 hHeld HB1 HM1
 generalize w9.alloc (.cells #[.int .i64 a,.int .i64 na,.int .i64 (j:Int)] 280)=w2 at HB2 HM2 HN2 ⊢
 go_wp2
 refine start_ (n:=27) (S:=fun w'=>Below w2.heap.size w2 w') (ds:=[]) #[false,false,false,false,false,false,false,false,false,false,false,false,false,false,false,false,false,false,false,false,false,false,false,false,false,false,false] (Z15) rfl rfl (below_drew1 (Below.refl _ _)) (fun hHeld=>?_)
 have HW3:=As.mk hHeld;clear hHeld;generalize w2.drew=w3 at HW3 ⊢;have hHeld:=HW3.out
 refine pI 0 (some 14) (bs 27 1) ?_
 refine pI 2 (some 16) (bs 27 5) ?_
 refine pI 3 (some 17) (bs 27 13) ?_
 refine tI 1 (some 15) (bs 27 15) rfl (Z136) hHeld ?_
 refine tI 4 (some 18) (bs 27 31) rfl (Z136) hHeld ?_
 refine pI 5 (some 19) (bs 27 63) ?_
 refine pI 6 (some 20) (bs 27 127) ?_
 refine pI 7 (some 21) (bs 27 255) ?_
 refine tI 8 (some 22) (bs 27 511) rfl (Z136) hHeld ?_
 refine pI 9 (some 23) (bs 27 1023) ?_
 refine pI 10 (some 24) (bs 27 2047) ?_
 refine pI 11 (some 25) (bs 27 4095) ?_
 refine pI 12 (some 26) (bs 27 8191) ?_
 refine pI 13 (some 27) (bs 27 16383) ?_
 refine pI 14 (some 28) (bs 27 32767) ?_
 refine pI 16 (some 30) (bs 27 98303) ?_
 refine pI 21 (some 35) (bs 27 2195455) ?_
 refine pI 22 (some 36) (bs 27 6389759) ?_
 refine tI 15 (some 29) (bs 27 6422527) rfl (Z136) hHeld ?_
 refine tI 17 (some 31) (bs 27 6553599) rfl (Z136) hHeld ?_
 refine pI 18 (some 32) (bs 27 6815743) ?_
 refine pI 19 (some 33) (bs 27 7340031) ?_
 refine tI 20 (some 34) (bs 27 8388607) rfl (Z136) hHeld ?_
 refine tI 23 (some 37) (bs 27 16777215) rfl (Z136) hHeld ?_
 refine pI 24 (some 38) (bs 27 33554431) ?_
 refine pI 25 (some 39) (bs 27 67108863) ?_
 refine pI 26 (some 4) (bs 27 134217727) ?_
 refine done_ (Z15) ?_
 go_wp2
 go_ret
 exact⟨rfl,bt_ HB2.out HW3.out⟩
theorem stale_any {w:World} {base c:Nat} {v:Value} {pt q:Nat} {lim st:Int} {L:List Nd} (HL:LkAt w base c v pt q lim st L) (f:Nat) (a b:Int) {n:Nd} (hf:L[f]?=some n) (hg:Goes L n) :
  Calls Tryz.prog 180 #[.pointer (some ⟨c,0,none⟩),.agg #[.int .i64 (f:Int),.int .i64 a,.int .i64 b]] w fun e w'=>e=.returned (.bool (staleB L f a b))/\Below w.heap.size w w':=by
 unfold staleB
 rw[hf]
 simp only
 by_cases h1:n.id=a
 ·rw[if_neg (by simpa using h1)]
  rcases hg with hn|⟨j,m,hn,hj⟩
  ·rw[if_pos hn]
   exact stale_end HL f a b hf h1 hn
  ·rw[if_neg (Z1),hn,Int.toNat_natCast,hj]
   simp only
   by_cases h2:m.id=b
   ·rw[show decide (m.id≠b)=false by simpa using h2]
    exact stale_not HL f a b hf j h1 hn hj h2
   ·rw[show decide (m.id≠b)=true by simpa using h2]
    exact stale_two HL f a b hf j h1 hn hj h2
 ·rw[if_pos (by simpa using h1)]
  exact stale_id HL f a b hf h1
end Go.Proofs.YtkffhgiiejbnaaaGreat.Ch
namespace Go.Proofs.YtkffhgiiejbnaaaGreat.Ch
open Go.RowKit YtkffhgiiejbnaaaGreatW.PrintWords YtkffhgiiejbnaaaGreatW.PrintLast YtkffhgiiejbnaaaGreatW.PrintMore Aid Mp Hp Hq Tk
theorem mod_set {α:Type} {L:List α} {i:Nat} {x:α} (f:α->α) (h:L[i]?=some x):L.modify i f=L.set i (f x):=by
 apply List.ext_getElem?
 intro k
 rw[List.getElem?_modify,List.getElem?_set]
 by_cases e:i=k
 ·subst e
  have hlt:i<L.length:=Z137
  rw[List.getElem?_eq_getElem hlt]at h
  injection h with h
  simp[h,hlt]
 ·simp[e]
theorem set_ne' {α:Type} {L:List α} {i j:Nat} {x y:α} (h:L[i]?=some x) (hne:i≠j):(L.set j y)[i]?=some x:=by rw[List.getElem?_set,if_neg (Ne.symm hne)];exact h
theorem set_eq' {α:Type} {L:List α} {i:Nat} {x y:α} (h:L[i]?=some x):(L.set i y)[i]?=some y:=by
 have hlt:i<L.length:=Z137
 rw[List.getElem?_set,if_pos rfl,if_pos hlt]
theorem join_sets {L:List Nd} {i j:Nat} {n m:Nd} {id:Int} (hij:i≠j) (hi:L[i]?=some n) (hj:L[j]?=some m) (after:Int) (ha:after=-1) :
  joinL L i j after id=((L.set j ⟨-2,m.ahead,m.next⟩).set i ⟨id,n.ahead,n.next⟩).set i ⟨id,n.ahead,after⟩:=by
 unfold joinL
 simp only
 rw[if_pos ha,mod_set _ hj,mod_set _ (set_ne' hi hij),List.set_set]
theorem join_sets_k {L:List Nd} {i j k:Nat} {n m p:Nd} {id:Int} (hij:i≠j) (hik:k≠i) (hjk:k≠j) (hi:L[i]?=some n) (hj:L[j]?=some m) (hk:L[k]?=some p) :
  joinL L i j (k:Int) id=(((L.set j ⟨-2,m.ahead,m.next⟩).set i ⟨id,n.ahead,n.next⟩).set i ⟨id,n.ahead,(k:Int)⟩).set k ⟨p.id,(i:Int),p.next⟩:=by
 unfold joinL
 simp only
 rw[if_neg (Z1),mod_set _ hj,mod_set _ (set_ne' hi hij),Int.toNat_natCast,mod_set _ (set_ne' (set_ne' hk hjk) hik),List.set_set]
theorem AskH.len {o:Option (Int × Int × Int)} {i:Int} {H H':List (Th Wx)} (h:AskH o i H H'):H'.length≤H.length+1:=by
 cases o with
 | none=>have:H'=H:=h;rw[this];omega
 | some x=>obtain⟨r,a,b⟩:=x;obtain⟨t,ht⟩:=h;rw[ht];simp
structure Joined (w w':World) (base c:Nat) (v:Value) (pt q:Nat) (lim:Int) (L':List Nd) (B:Nat) (H:List (Th Wx)) (o1:Option (Int × Int × Int)) (i1:Int) (o2:Option (Int × Int × Int)) (i2:Int):Prop where
 mk::(link:∃ st,LkAt w' base c v pt q lim st L') (below:Below base w w') (queue:∃ H1 H2,AskH o1 i1 H H1/\AskH o2 i2 H1 H2/\HpOf w' base q (B+2) H2)
theorem join_end {w:World} {base c:Nat} {v:Value} {pt q:Nat} {lim st:Int} {L:List Nd} {B:Nat} {H:List (Th Wx)} {E:List Ent} {W0:World} (HL:LkAt w base c v pt q lim st L) (HQ:HpOf w base q B H) (hW0:W0.heap.size≤base) (HT0:TabAt W0 pt E) (HB0:Below base W0 w) (i j:Nat) (id:Int) {n m:Nd} (hij:i≠j) (hi:L[i]?=some n) (hn:n.next=(j:Int)) (hj:L[j]?=some m) (hm:m.next=(-1))
  (hI:(joinL L i j (-1) id)[i]?=some ⟨id,n.ahead,(-1)⟩) (hIg:Goes (joinL L i j (-1) id) ⟨id,n.ahead,(-1)⟩) (hA:n.ahead=-1\/∃ (k0:Nat) (x:Nd),n.ahead=(k0:Int)/\(joinL L i j (-1) id)[k0]?=some x/\Goes (joinL L i j (-1) id) x) (hHl:H.length≤800000000) (hB:B≤800000000) :
  Calls Tryz.prog 181 #[.pointer (some ⟨c,0,none⟩),.int .i64 (i:Int),.int .i64 id] w fun e w'=>e=.returned (.tuple #[])/\Joined w w' base c v pt q lim (joinL L i j (-1) id) B H (askF E lim (joinL L i j (-1) id) n.ahead) n.ahead (askF E lim (joinL L i j (-1) id) (i:Int)) (i:Int):=by
 have hlt:i<L.length:=Z128
 have hltj:j<L.length:=Z129
 obtain⟨g,cap,rfl,hb,hgl,hne,hnq,hcap,cells,hg⟩:=HL.form (Z1)
 have HJ:=As.mk (join_sets (id:=id) hij hi hj (-1) rfl)
 have hiI:(i:Int)<(L.length:Int):=Z1
 have hi0:(0:Int)≤(i:Int):=Z1
 have hjI:(j:Int)<(L.length:Int):=Z1
 have hj0:(0:Int)≤(j:Int):=Z1
 have HI:=As.mk hI
 have HIg:=As.mk hIg
 have HA:=As.mk hA
 have HBD:=As.mk (And.intro hHl hB)
 generalize joinL L i j (-1) id=L' at *
 clear hI hIg hA hHl hB
 obtain⟨p1,p2,⟨cs1,p3⟩,p4⟩:=HL.put hj 0 (.int .i64 (-2)) ⟨-2,m.ahead,m.next⟩ (Z31) rfl
 simp only[Nat.add_zero]at p1 p2
 have HL1:=As.mk p1
 have HB1:=As.mk p2
 have HQ1:=As.mk (HQ.far p3 hnq (Z31) (j * 3) (.int .i64 (-2)))
 have a2:=(HL.elem hi).1 2 _ rfl
 rw[hn]at a2
 have b2:=(HL.elem hj).1 2 _ rfl
 rw[hm]at b2
 have b0:=(HL.elem hj).1 0 _ rfl
 simp only[Nat.add_zero]at b0
 have bz:=(HL.elem hj).2 0
 simp only[Nat.add_zero]at bz
 have c1:=HL.c.2.1
 have HI1:=As.mk (set_ne' (j:=j) (y:=(⟨-2,m.ahead,m.next⟩:Nd)) hi hij)
 have HTT:=As.mk (And.intro HT0 (And.intro HB0 hW0))
 have HN:=As.mk (And.intro hn hm)
 clear p1 p2 p3 p4 hg hi hj hn hm HL HQ HT0 HB0 hW0 hlt hltj
 go_enter Tryz.func181,Tryz.ntmps181
 go_wp2
 clear a2 b2 b0 bz c1
 generalize w.setCell ⟨g,j * 3,none⟩ (.int .i64 (-2))=w1 at *
 have c1:=HL1.out.c.2.1
 refine start_ (n:=18) (S:=fun w'=>w'.cell? ⟨c,1,none⟩=some (.slice (some ⟨g,0,none⟩) L.length cap)) (ds:=[14,17]) #[false,false,false,false,false,false,false,false,false,false,false,false,false,false,false,false,false,false] (Z15) rfl rfl (c1) (fun hHeld=>?_)
 have HL2:=As.mk (HL1.out.below (below_drew1 (Below.refl _ _)));have HQ2:=As.mk (HQ1.out.below (below_drew1 (Below.refl _ _)));have HB2:=As.mk (below_drew1 HB1.out);clear HL1 HQ1 HB1 c1;generalize w1.drew=w2 at HL2 HQ2 HB2 hHeld ⊢
 refine pI 0 (some 31) (bs 18 1) ?_
 refine pI 1 (some 32) (bs 18 3) ?_
 refine pI 2 (some 33) (bs 18 7) ?_
 refine pI 4 (some 35) (bs 18 23) ?_
 refine pI 5 (some 36) (bs 18 55) ?_
 refine pI 6 (some 37) (bs 18 119) ?_
 refine pI 7 (some 38) (bs 18 247) ?_
 refine pI 9 (some 40) (bs 18 759) ?_
 refine pI 10 (some 41) (bs 18 1783) ?_
 refine pI 11 (some 42) (bs 18 3831) ?_
 refine tI 3 (some 34) (bs 18 3839) rfl (Z88) hHeld ?_
 refine tI 8 (some 39) (bs 18 4095) rfl (Z88) hHeld ?_
 refine pI 12 (some 43) (bs 18 8191) ?_
 refine pI 13 (some 44) (bs 18 16383) ?_
 refine last_ (i:=14) (N:=none) (bs 18 32767) rfl rfl (Z15) (Z31) (fun K hK=>?_)
 clear hHeld
 obtain⟨p1,p2,⟨cs1,p3⟩,p4⟩:=HL2.out.put HI1.out 0 (.int .i64 id) ⟨id,n.ahead,n.next⟩ (Z31) rfl
 have HQ3:=As.mk (HQ2.out.far p3 p4 (Z31) (i * 3+0) (.int .i64 id))
 have hz:=(HL2.out.elem HI1.out).2 0
 have hcc:=(HL2.out.elem HI1.out).1 0 _ rfl
 simp only[Nat.add_zero]at p1 p2 hz hcc HQ3
 have HL3:=As.mk p1
 have HB3:=As.mk (HB2.out.trans p2)
 refine skip_ (w1:=w2.setCell ⟨g,i * 3,none⟩ (.int .i64 id)) (by rfl) rfl ?_ ?_
 ·first|(go_simp;done)|(go_simp;rfl)
 clear p1 p2 p3 p4 hz hcc HL2 HQ2 HB2
 generalize w2.setCell ⟨g,i * 3,none⟩ (.int .i64 id)=w3 at *
 have HI3:=As.mk (set_eq' (y:=(⟨id,n.ahead,n.next⟩:Nd)) HI1.out)
 refine hK.out _ _ ?_
 clear hK K
 refine pI 15 (some 45) (bs 18 65535) ?_
 refine pI 16 (some 46) (bs 18 131071) ?_
 refine last_ (i:=17) (N:=none) (bs 18 262143) rfl rfl (Z15) (Z31) (fun K hK=>?_)
 obtain⟨p1,p2,⟨cs1,p3⟩,p4⟩:=HL3.out.put HI3.out 2 (.int .i64 (-1)) ⟨id,n.ahead,(-1)⟩ (Z31) rfl
 have HQ4:=As.mk (HQ3.out.far p3 p4 (Z31) (i * 3+2) (.int .i64 (-1)))
 have hz:=(HL3.out.elem HI3.out).2 2
 have hcc:=(HL3.out.elem HI3.out).1 2 _ rfl
 have HL4:=As.mk p1
 have HB4:=As.mk (HB3.out.trans p2)
 refine skip_ (w1:=w3.setCell ⟨g,i * 3+2,none⟩ (.int .i64 (-1))) (by rfl) rfl ?_ ?_
 ·first|(go_simp;done)|(go_simp;rfl)
 clear p1 p2 p3 p4 hz hcc HL3 HQ3 HB3
 generalize w3.setCell ⟨g,i * 3+2,none⟩ (.int .i64 (-1))=w4 at *
 refine hK.out _ _ ?_
 clear hK K
 refine done_ (Z15) ?_
 have c4:=HL4.out.c.2.2.2.2
 have z4:=blk_frozen HL4.out.blk 4
 obtain⟨csq,hcsq⟩:=HL4.out.qt
 have HL6:=As.mk (show LkAt (w4.setCell ⟨c,4,none⟩ (.int .i64 (wrap64 (st+1)))) base c (.slice (some ⟨g,0,none⟩) L.length cap) pt q lim (wrap64 (st+1)) L' from⟨HL4.out.le,HL4.out.ne,blk_set HL4.out.blk 4 (.int .i64 (wrap64 (st+1))),⟨csq,(Below.heap_setCell w4 ⟨c,4,none⟩ _ q (Ne.symm HL4.out.ne)).trans hcsq⟩,by rw[HJ.out];exact Kd.R_set HL4.out.rows HL4.out.blk (Z31) 4 _⟩)
 have HQ6:=As.mk (HQ4.out.far HL4.out.blk HL4.out.ne (Z31) 4 (.int .i64 (wrap64 (st+1))))
 have HB6:=As.mk (HB4.out.setCell (p:=⟨c,4,none⟩) HL4.out.le (.int .i64 (wrap64 (st+1))))
 clear hcsq
 have c61:=HL6.out.c.2.1
 have a61:=(HL6.out.elem HI.out).1 1 _ rfl
 go_wp2_with fail
 clear c4 z4 c61 a61 HL4 HQ4 HB4
 generalize w4.setCell ⟨c,4,none⟩ (.int .i64 (wrap64 (st+1)))=w6 at *
 have HT6:=As.mk (HTT.out.1.below ((HTT.out.2.1.trans HB6.out).mono HTT.out.2.2))
 go_at_call 178
 refine(asks_any HL6.out HQ6.out HT6.out n.ahead HA.out (by have:=HBD.out.1;omega) (Z138)).mono ?_
 rintro e w8 ⟨rfl,hask⟩
 have HL8:=As.mk hask.link
 have HB8:=As.mk (HB6.out.trans hask.below)
 obtain⟨H1,hh1,hh2⟩:=hask.queue
 have HAS1:=As.mk hh1
 have HQ8:=As.mk hh2
 clear hask hh1 hh2 HL6 HQ6 HB6 HT6
 have HT8:=As.mk (HTT.out.1.below ((HTT.out.2.1.trans HB8.out).mono HTT.out.2.2))
 go_wp2_with (go_at_call 178;refine(asks_any HL8.out HQ8.out HT8.out (i:Int) (.inr ⟨i,_,rfl,HI.out,HIg.out⟩) (Z139) (Z138)).mono ?_;rintro e w9 ⟨rfl,hask⟩;have HL9:=As.mk hask.link;have HB9:=As.mk (HB8.out.trans hask.below);obtain⟨H2,hh1,hh2⟩:=hask.queue;have HAS2:=As.mk hh1;have HQ9:=As.mk hh2;clear hask hh1 hh2)
 go_end0
 exact⟨rfl,⟨_,HL9.out⟩,HB9.out,H1,H2,HAS1.out,HAS2.out,HQ9.out⟩
theorem join_two {w:World} {base c:Nat} {v:Value} {pt q:Nat} {lim st:Int} {L:List Nd} {B:Nat} {H:List (Th Wx)} {E:List Ent} {W0:World} (HL:LkAt w base c v pt q lim st L) (HQ:HpOf w base q B H) (hW0:W0.heap.size≤base) (HT0:TabAt W0 pt E) (HB0:Below base W0 w) {k:Nat} (i j:Nat) (id:Int) {n m:Nd} (hij:i≠j) (hi:L[i]?=some n) (hn:n.next=(j:Int)) (hj:L[j]?=some m) (hm:m.next=(k:Int)) {p:Nd} (hik:k≠i) (hjk:k≠j) (hk:L[k]?=some p)
  (hI:(joinL L i j (k:Int) id)[i]?=some ⟨id,n.ahead,(k:Int)⟩) (hIg:Goes (joinL L i j (k:Int) id) ⟨id,n.ahead,(k:Int)⟩) (hA:n.ahead=-1\/∃ (k0:Nat) (x:Nd),n.ahead=(k0:Int)/\(joinL L i j (k:Int) id)[k0]?=some x/\Goes (joinL L i j (k:Int) id) x) (hHl:H.length≤800000000) (hB:B≤800000000) :
  Calls Tryz.prog 181 #[.pointer (some ⟨c,0,none⟩),.int .i64 (i:Int),.int .i64 id] w fun e w'=>e=.returned (.tuple #[])/\Joined w w' base c v pt q lim (joinL L i j (k:Int) id) B H (askF E lim (joinL L i j (k:Int) id) n.ahead) n.ahead (askF E lim (joinL L i j (k:Int) id) (i:Int)) (i:Int):=by
 have hlt:i<L.length:=Z128
 have hltj:j<L.length:=Z129
 obtain⟨g,cap,rfl,hb,hgl,hne,hnq,hcap,cells,hg⟩:=HL.form (Z1)
 have HJ:=As.mk (join_sets_k (id:=id) hij hik hjk hi hj hk)
 have hiI:(i:Int)<(L.length:Int):=Z1
 have hi0:(0:Int)≤(i:Int):=Z1
 have hjI:(j:Int)<(L.length:Int):=Z1
 have hj0:(0:Int)≤(j:Int):=Z1
 have hltk:k<L.length:=by rcases Nat.lt_or_ge k L.length with h|h;exact h;rw[List.getElem?_eq_none h]at hk;cases hk
 have hkI:(k:Int)<(L.length:Int):=Z1
 have hk0:(0:Int)≤(k:Int):=Z1
 have hk1:((k:Int) != -1)=true:=by simpa using (show ¬ (k:Int)=-1 from Z1)
 have HK:=As.mk (set_ne' (j:=i) (y:=(⟨id,n.ahead,(k:Int)⟩:Nd)) (set_ne' (j:=i) (y:=(⟨id,n.ahead,n.next⟩:Nd)) (set_ne' (j:=j) (y:=(⟨-2,m.ahead,m.next⟩:Nd)) hk hjk) hik) hik)
 clear hk hltk
 have HI:=As.mk hI
 have HIg:=As.mk hIg
 have HA:=As.mk hA
 have HBD:=As.mk (And.intro hHl hB)
 generalize joinL L i j (k:Int) id=L' at *
 clear hI hIg hA hHl hB
 obtain⟨p1,p2,⟨cs1,p3⟩,p4⟩:=HL.put hj 0 (.int .i64 (-2)) ⟨-2,m.ahead,m.next⟩ (Z31) rfl
 simp only[Nat.add_zero]at p1 p2
 have HL1:=As.mk p1
 have HB1:=As.mk p2
 have HQ1:=As.mk (HQ.far p3 hnq (Z31) (j * 3) (.int .i64 (-2)))
 have a2:=(HL.elem hi).1 2 _ rfl
 rw[hn]at a2
 have b2:=(HL.elem hj).1 2 _ rfl
 rw[hm]at b2
 have b0:=(HL.elem hj).1 0 _ rfl
 simp only[Nat.add_zero]at b0
 have bz:=(HL.elem hj).2 0
 simp only[Nat.add_zero]at bz
 have c1:=HL.c.2.1
 have HI1:=As.mk (set_ne' (j:=j) (y:=(⟨-2,m.ahead,m.next⟩:Nd)) hi hij)
 have HTT:=As.mk (And.intro HT0 (And.intro HB0 hW0))
 have HN:=As.mk (And.intro hn hm)
 clear p1 p2 p3 p4 hg hi hj hn hm HL HQ HT0 HB0 hW0 hlt hltj
 go_enter Tryz.func181,Tryz.ntmps181
 go_wp2
 clear a2 b2 b0 bz c1
 generalize w.setCell ⟨g,j * 3,none⟩ (.int .i64 (-2))=w1 at *
 have c1:=HL1.out.c.2.1
 refine start_ (n:=18) (S:=fun w'=>w'.cell? ⟨c,1,none⟩=some (.slice (some ⟨g,0,none⟩) L.length cap)) (ds:=[14,17]) #[false,false,false,false,false,false,false,false,false,false,false,false,false,false,false,false,false,false] (Z15) rfl rfl (c1) (fun hHeld=>?_)
 have HL2:=As.mk (HL1.out.below (below_drew1 (Below.refl _ _)));have HQ2:=As.mk (HQ1.out.below (below_drew1 (Below.refl _ _)));have HB2:=As.mk (below_drew1 HB1.out);clear HL1 HQ1 HB1 c1;generalize w1.drew=w2 at HL2 HQ2 HB2 hHeld ⊢
 refine pI 0 (some 31) (bs 18 1) ?_
 refine pI 1 (some 32) (bs 18 3) ?_
 refine pI 2 (some 33) (bs 18 7) ?_
 refine pI 4 (some 35) (bs 18 23) ?_
 refine pI 5 (some 36) (bs 18 55) ?_
 refine pI 6 (some 37) (bs 18 119) ?_
 refine pI 7 (some 38) (bs 18 247) ?_
 refine pI 9 (some 40) (bs 18 759) ?_
 refine pI 10 (some 41) (bs 18 1783) ?_
 refine pI 11 (some 42) (bs 18 3831) ?_
 refine tI 3 (some 34) (bs 18 3839) rfl (Z88) hHeld ?_
 refine tI 8 (some 39) (bs 18 4095) rfl (Z88) hHeld ?_
 refine pI 12 (some 43) (bs 18 8191) ?_
 refine pI 13 (some 44) (bs 18 16383) ?_
 refine last_ (i:=14) (N:=none) (bs 18 32767) rfl rfl (Z15) (Z31) (fun K hK=>?_)
 clear hHeld
 obtain⟨p1,p2,⟨cs1,p3⟩,p4⟩:=HL2.out.put HI1.out 0 (.int .i64 id) ⟨id,n.ahead,n.next⟩ (Z31) rfl
 have HQ3:=As.mk (HQ2.out.far p3 p4 (Z31) (i * 3+0) (.int .i64 id))
 have hz:=(HL2.out.elem HI1.out).2 0
 have hcc:=(HL2.out.elem HI1.out).1 0 _ rfl
 simp only[Nat.add_zero]at p1 p2 hz hcc HQ3
 have HL3:=As.mk p1
 have HB3:=As.mk (HB2.out.trans p2)
 refine skip_ (w1:=w2.setCell ⟨g,i * 3,none⟩ (.int .i64 id)) (by rfl) rfl ?_ ?_
 ·first|(go_simp;done)|(go_simp;rfl)
 clear p1 p2 p3 p4 hz hcc HL2 HQ2 HB2
 generalize w2.setCell ⟨g,i * 3,none⟩ (.int .i64 id)=w3 at *
 have HI3:=As.mk (set_eq' (y:=(⟨id,n.ahead,n.next⟩:Nd)) HI1.out)
 refine hK.out _ _ ?_
 clear hK K
 refine pI 15 (some 45) (bs 18 65535) ?_
 refine pI 16 (some 46) (bs 18 131071) ?_
 refine last_ (i:=17) (N:=none) (bs 18 262143) rfl rfl (Z15) (Z31) (fun K hK=>?_)
 obtain⟨p1,p2,⟨cs1,p3⟩,p4⟩:=HL3.out.put HI3.out 2 (.int .i64 (k:Int)) ⟨id,n.ahead,(k:Int)⟩ (Z31) rfl
 have HQ4:=As.mk (HQ3.out.far p3 p4 (Z31) (i * 3+2) (.int .i64 (k:Int)))
 have hz:=(HL3.out.elem HI3.out).2 2
 have hcc:=(HL3.out.elem HI3.out).1 2 _ rfl
 have HL4:=As.mk p1
 have HB4:=As.mk (HB3.out.trans p2)
 refine skip_ (w1:=w3.setCell ⟨g,i * 3+2,none⟩ (.int .i64 (k:Int))) (by rfl) rfl ?_ ?_
 ·first|(go_simp;done)|(go_simp;rfl)
 clear p1 p2 p3 p4 hz hcc HL3 HQ3 HB3
 generalize w3.setCell ⟨g,i * 3+2,none⟩ (.int .i64 (k:Int))=w4 at *
 refine hK.out _ _ ?_
 clear hK K
 refine done_ (Z15) ?_
 obtain⟨p1,p2,⟨cs1,p3⟩,p4⟩:=HL4.out.put HK.out 1 (.int .i64 (i:Int)) ⟨p.id,(i:Int),p.next⟩ (Z31) rfl
 have HL5:=As.mk p1
 have HB5:=As.mk (HB4.out.trans p2)
 have HQ5:=As.mk (HQ4.out.far p3 p4 (Z31) (k * 3+1) (.int .i64 (i:Int)))
 have d1:=(HL4.out.elem HK.out).1 1 _ rfl
 have dz:=(HL4.out.elem HK.out).2 1
 have c1:=HL4.out.c.2.1
 clear p1 p2 p3 p4 HL4 HB4 HQ4
 have hw5:w4.setCell ⟨g,k * 3+1,none⟩ (.int .i64 (i:Int))=w4.setCell ⟨g,k * 3+1,none⟩ (.int .i64 (i:Int)):=rfl
 obtain⟨w5,hw5⟩:∃ w5,w5=w4.setCell ⟨g,k * 3+1,none⟩ (.int .i64 (i:Int)):=⟨_,rfl⟩
 rw[←hw5]at HL5 HB5 HQ5
 have HW5:=As.mk hw5
 clear hw5
 have c4:=HL5.out.c.2.2.2.2
 have z4:=blk_frozen HL5.out.blk 4
 obtain⟨csq,hcsq⟩:=HL5.out.qt
 have HL6:=As.mk (show LkAt (w5.setCell ⟨c,4,none⟩ (.int .i64 (wrap64 (st+1)))) base c (.slice (some ⟨g,0,none⟩) L.length cap) pt q lim (wrap64 (st+1)) L' from⟨HL5.out.le,HL5.out.ne,blk_set HL5.out.blk 4 (.int .i64 (wrap64 (st+1))),⟨csq,(Below.heap_setCell w5 ⟨c,4,none⟩ _ q (Ne.symm HL5.out.ne)).trans hcsq⟩,by rw[HJ.out];exact Kd.R_set HL5.out.rows HL5.out.blk (Z31) 4 _⟩)
 have HQ6:=As.mk (HQ5.out.far HL5.out.blk HL5.out.ne (Z31) 4 (.int .i64 (wrap64 (st+1))))
 have HB6:=As.mk (HB5.out.setCell (p:=⟨c,4,none⟩) HL5.out.le (.int .i64 (wrap64 (st+1))))
 clear hcsq
 rw[HW5.out]at c4 z4 HL6 HQ6 HB6
 have c61:=HL6.out.c.2.1
 have a61:=(HL6.out.elem HI.out).1 1 _ rfl
 go_wp2_with fail
 clear c4 z4 c61 a61 HL5 HQ5 HB5
 generalize (w4.setCell ⟨g,k * 3+1,none⟩ (.int .i64 (i:Int))).setCell ⟨c,4,none⟩ (.int .i64 (wrap64 (st+1)))=w6 at *
 have HT6:=As.mk (HTT.out.1.below ((HTT.out.2.1.trans HB6.out).mono HTT.out.2.2))
 go_at_call 178
 refine(asks_any HL6.out HQ6.out HT6.out n.ahead HA.out (by have:=HBD.out.1;omega) (Z138)).mono ?_
 rintro e w8 ⟨rfl,hask⟩
 have HL8:=As.mk hask.link
 have HB8:=As.mk (HB6.out.trans hask.below)
 obtain⟨H1,hh1,hh2⟩:=hask.queue
 have HAS1:=As.mk hh1
 have HQ8:=As.mk hh2
 clear hask hh1 hh2 HL6 HQ6 HB6 HT6
 have HT8:=As.mk (HTT.out.1.below ((HTT.out.2.1.trans HB8.out).mono HTT.out.2.2))
 go_wp2_with (go_at_call 178;refine(asks_any HL8.out HQ8.out HT8.out (i:Int) (.inr ⟨i,_,rfl,HI.out,HIg.out⟩) (Z139) (Z138)).mono ?_;rintro e w9 ⟨rfl,hask⟩;have HL9:=As.mk hask.link;have HB9:=As.mk (HB8.out.trans hask.below);obtain⟨H2,hh1,hh2⟩:=hask.queue;have HAS2:=As.mk hh1;have HQ9:=As.mk hh2;clear hask hh1 hh2)
 go_end0
 exact⟨rfl,⟨_,HL9.out⟩,HB9.out,H1,H2,HAS1.out,HAS2.out,HQ9.out⟩
end Go.Proofs.YtkffhgiiejbnaaaGreat.Ch
namespace Go.Proofs.YtkffhgiiejbnaaaGreat.Ch
open Go.RowKit YtkffhgiiejbnaaaGreatW.PrintWords YtkffhgiiejbnaaaGreatW.PrintLast YtkffhgiiejbnaaaGreatW.PrintMore Aid Mp Hp Hq Tk
def nodesN (s:ByteArray) (n:Nat):List Nd:=(List.range n).map (fun i:Nat=>⟨bt s (i:Int),(i:Int)-1,(i:Int)+1⟩)
theorem nodesN_len (s:ByteArray) (n:Nat):(nodesN s n).length=n:=by simp[nodesN]
theorem nodesN_succ (s:ByteArray) (n:Nat):nodesN s (n+1)=nodesN s n++[⟨bt s (n:Int),(n:Int)-1,(n:Int)+1⟩]:=by simp[nodesN,List.range_succ]
def nodesF (s:ByteArray):List Nd:=(List.range s.size).map (fun i:Nat=>⟨bt s (i:Int),(i:Int)-1,if i+1=s.size then -1 else (i:Int)+1⟩)
theorem nodesF_len (s:ByteArray):(nodesF s).length=s.size:=by simp[nodesF]
theorem nodesF_at (s:ByteArray) {i:Nat} (h:i<s.size):(nodesF s)[i]?=some ⟨bt s (i:Int),(i:Int)-1,if i+1=s.size then -1 else (i:Int)+1⟩:=by
 unfold nodesF;rw[List.getElem?_map,List.getElem?_range h];rfl
theorem nodes_last (s:ByteArray) {k:Nat} (h:s.size=k+1):(nodesN s s.size).set k ⟨bt s (k:Int),(k:Int)-1,-1⟩=nodesF s:=by
 apply List.ext_getElem?
 intro i
 rw[List.getElem?_set]
 by_cases e:k=i
 ·subst e
  rw[if_pos rfl,if_pos (Z140),nodesF_at s (Z1),if_pos (Z1)]
 ·rw[if_neg e]
  by_cases hi:i<s.size
  ·rw[nodesF_at s hi,if_neg (Z1)]
   unfold nodesN;rw[List.getElem?_map,List.getElem?_range hi];rfl
  ·rw[List.getElem?_eq_none (Z140),List.getElem?_eq_none (by rw[nodesF_len];omega)]
theorem nodes_goes (s:ByteArray) {i:Nat} (h:i<s.size):∃ n,(nodesF s)[i]?=some n/\Goes (nodesF s) n:=by
 refine⟨_,nodesF_at s h,?_⟩
 by_cases e:i+1=s.size
 ·exact .inl (by show (if i+1=s.size then (-1:Int) else (i:Int)+1)=_;rw[if_pos e])
 ·exact .inr ⟨i+1,_,by show (if i+1=s.size then (-1:Int) else (i:Int)+1)=_;rw[if_neg e];omega,nodesF_at s (Z1)⟩
structure AskedTo (E:List Ent) (lim:Int) (L:List Nd) (i:Nat) (H:List (Th Wx)):Prop where
 all:∀ (k:Nat) r a b,k<i->askF E lim L (k:Int)=some (r,a,b)->∃ t,(⟨r,(k:Int),t,⟨(k:Int),a,b⟩⟩:Th Wx)∈H
 only:∀ x∈H,∃ k:Nat,k<i/\x.p=(k:Int)/\x.x.f=(k:Int)/\askF E lim L (k:Int)=some (x.r,x.x.a,x.x.b)
 many:H.length≤i
theorem AskedTo.zero (E:List Ent) (lim:Int) (L:List Nd):AskedTo E lim L 0 []:=⟨fun k _ _ _ h _=>Z1,(fun x hx=>by cases hx),by simp⟩
theorem AskedTo.step {E:List Ent} {lim:Int} {L:List Nd} {i:Nat} {H H':List (Th Wx)} (h:AskedTo E lim L i H) (ha:AskH (askF E lim L (i:Int)) (i:Int) H H'):AskedTo E lim L (i+1) H':=by
 cases hq:askF E lim L (i:Int) with
 | none =>
  rw[hq]at ha
  have e:H'=H:=ha
  subst e
  refine⟨fun k r a b hk hr=>?_,fun x hx=>?_,by have:=h.many;omega⟩
  ·by_cases e:k=i
   ·subst e;rw[hq]at hr;cases hr
   ·exact h.all k r a b (Z1) hr
  ·obtain⟨k,h1,h2⟩:=h.only x hx
   exact⟨k,Z1,h2⟩
 | some y =>
  obtain⟨r0,a0,b0⟩:=y
  rw[hq]at ha
  obtain⟨t,e⟩:=ha
  subst e
  refine⟨fun k r a b hk hr=>?_,fun x hx=>?_,by have:=h.many;simp;omega⟩
  ·by_cases e:k=i
   ·subst e;rw[hq]at hr;injection hr with hr;injection hr with h1 hr;injection hr with h2 h3;subst h1;subst h2;subst h3
    exact⟨t,List.mem_cons_self ..⟩
   ·obtain⟨t2,h2⟩:=h.all k r a b (Z1) hr
    exact⟨t2,List.mem_cons_of_mem _ h2⟩
  ·rcases List.mem_cons.1 hx with e|hx
   ·subst e;exact⟨i,Z1,rfl,rfl,hq⟩
   ·obtain⟨k,h1,h2⟩:=h.only x hx
    exact⟨k,Z1,h2⟩
theorem new_any (w:World):Calls Tryz.prog 177 #[] w fun e w'=>e=.returned (.pointer (some ⟨w.heap.size,0,none⟩))/\w.alloc (.cells #[.slice none 0 0,.int .i64 0] 288)=w':=by
 go_enter Tryz.func177,Tryz.ntmps177
 go_wp2
 go_ret
 exact⟨rfl,rfl⟩
theorem LkAt.told {W W1:World} {base c:Nat} {v v1:Value} {pt q:Nat} {lim st:Int} {L L':List Nd} (H:LkAt W base c v pt q lim st L) (hg:W.grownBy W1 v.ownBlock) (hr:Kd.R kNd 280 W1 base (fun _=>True) v1 L'):LkAt (W1.setCell ⟨c,1,none⟩ v1) base c v1 pt q lim st L':=by
 have hc:=blk_grown H.blk hg (Kd.R_ne H.rows H.blk (Z31))
 obtain⟨cs,hq⟩:=H.qt
 have hq1:=blk_grown hq hg (Kd.R_ne H.rows hq (Z31))
 exact⟨H.le,H.ne,blk_set hc 1 v1,⟨cs,(Below.heap_setCell W1 ⟨c,1,none⟩ v1 q (Ne.symm H.ne)).trans hq1⟩,Kd.R_set hr hc (Z31) 1 v1⟩
theorem HpOf.grown {W W1:World} {base c q B:Nat} {v:Value} {pt:Nat} {lim st:Int} {L:List Nd} {H:List (Th Wx)} (HQ:HpOf W base q B H) (HL:LkAt W base c v pt q lim st L) (hg:W.grownBy W1 v.ownBlock):HpOf W1 base q B H:=by
 obtain⟨u,n,l',h1,h2⟩:=HQ.out
 have hq1:=blk_grown h1.blk hg (Kd.R_ne HL.rows h1.blk (Z31))
 exact⟨⟨u,n,l',⟨h1.le,hq1,Kd.R_over h1.rows HL.rows (fun z hz=>by simp only[kTh_E,List.mem_singleton]at hz;rw[hz];decide) hg⟩,h2⟩⟩
end Go.Proofs.YtkffhgiiejbnaaaGreat.Ch
namespace Go.Proofs.YtkffhgiiejbnaaaGreat.Ch
open Go.RowKit YtkffhgiiejbnaaaGreatW.PrintWords YtkffhgiiejbnaaaGreatW.PrintLast YtkffhgiiejbnaaaGreatW.PrintMore Aid Mp Hp Hq Tk
structure Begun (w w':World) (c:Nat) (pt:Nat) (lim:Int) (E:List Ent) (s:ByteArray):Prop where
 mk::(out:∃ q v H,LkAt w' w.heap.size c v pt q lim 0 (nodesF s)/\HpOf w' w.heap.size q s.size H/\AskedTo E lim (nodesF s) s.size H) (below:Below w.heap.size w w')
theorem begin_any {w:World} {pt:Nat} {E:List Ent} (HT:TabAt w pt E) (s:ByteArray) (hs:s.size≤200000000) (lim:Int) :
  Calls Tryz.prog 173 #[.pointer (some ⟨pt,0,none⟩),.string s,.int .i64 lim] w fun e w'=>∃ c,e=.returned (.pointer (some ⟨c,0,none⟩))/\Begun w w' c pt lim E s:=by
 have HS:=As.mk hs
 have HTT:=As.mk HT
 clear HT hs
 go_enter Tryz.func173,Tryz.ntmps173
 go_wp2_with (go_at_call 177;refine(new_any _).mono ?_;rintro e w1 ⟨rfl,rfl⟩)
 have hn:=two_new w (.cells #[.slice none 0 0,.int .i64 0] 288 (0,0)) (.cells #[.pointer (some ⟨pt,0,none⟩),.slice none 0 0,.pointer (some ⟨w.heap.size,0,none⟩),.int .i64 lim,.int .i64 0] 278 (0,0))
 have HL0:=As.mk (LkAt.mk (base:=w.heap.size) (Nat.le_succ _) (Z1) hn.2 ⟨_,hn.1⟩ (Kd.R_nil kNd 280 _ _ _))
 have HQ0:=As.mk (HpOf.mk (B:=0) ⟨_,0,[],HpAt.mk (base:=w.heap.size) (Nat.le_refl _) hn.1 (Kd.R_nil kTh 294 _ _ _),Int.le_refl _,Int.le_refl _,List.Perm.refl _,fun j hj x y hx=>by simp at hx⟩)
 have HB0:=As.mk (below_alloc (below_alloc (Below.refl w.heap.size w) (.cells #[.slice none 0 0,.int .i64 0] 288)) (.cells #[.pointer (some ⟨pt,0,none⟩),.slice none 0 0,.pointer (some ⟨w.heap.size,0,none⟩),.int .i64 lim,.int .i64 0] 278))
 clear hn
 generalize (w.alloc (.cells #[.slice none 0 0,.int .i64 0] 288)).alloc (.cells #[.pointer (some ⟨pt,0,none⟩),.slice none 0 0,.pointer (some ⟨w.heap.size,0,none⟩),.int .i64 lim,.int .i64 0] 278)=w1 at HL0 HQ0 HB0 ⊢
 go_loopg [18] s.size (fun f v18 w'=>∃ (i:Nat) (v:Value) (W:World),v18=.int .i64 (i:Int)/\i≤s.size/\As (W=w')/\As (s.size≤i+f)/\As (LkAt W w.heap.size (w.heap.size+1) v pt w.heap.size lim 0 (nodesN s i))/\As (HpOf W w.heap.size w.heap.size 0 [])/\As (Below w.heap.size w W))
 case atStart=>exact⟨0,_,w1,rfl,Nat.zero_le _,⟨rfl⟩,⟨Z1⟩,HL0,HQ0,HB0⟩
 case round =>
  clear HL0 HQ0 HB0
  obtain⟨i,v,W,rfl,hi,HW,HK,HL,HQ,HB⟩:=hrel
  have hW:=HW.out
  subst hW
  clear HW
  by_cases hlt:i<s.size
  ·obtain⟨f,rfl⟩:∃ f,gk=f+1:=⟨gk-1,Z65⟩
   obtain⟨A,cap,rfl⟩:=Kd.R_slice HL.out.rows
   have hltI:(i:Int)<(s.size:Int):=Z1
   have hi0:(0:Int)≤(i:Int):=Z1
   have hiB:(i:Int)≤200000000:=Z116
   have hb:=bt_at s (i:Int)
   have hbr:=bt_range s (i:Int)
   simp only[Int.toNat_natCast]at hb
   have hw0:IntKind.i64.wrap (bt s (i:Int))=bt s (i:Int):=Z184
   have hw1:IntKind.i64.wrap ((i:Int)-1)=(i:Int)-1:=Z184
   have hw2:IntKind.i64.wrap ((i:Int)+1)=(i:Int)+1:=Z184
   have HLN:=As.mk (nodesN_len s i)
   have HSU:=As.mk (nodesN_succ s i)
   generalize hL2:nodesN s (i+1)=L2 at HSU
   have HL2:=As.mk hL2
   clear hL2
   generalize nodesN s i=L at *
   have c1:=HL.out.c.2.1
   go_wp2
   refine start_ (n:=19) (S:=fun w'=>w'.cell? ⟨w.heap.size+1,1,none⟩=some (.slice A L.length cap)) (ds:=[18]) #[false,false,false,false,false,false,false,false,false,false,false,false,false,false,false,false,false,false,false] (Z15) rfl rfl (c1) (fun hHeld=>?_)
   have HL3:=As.mk (HL.out.below (below_drew1 (Below.refl _ _)));have HQ3:=As.mk (HQ.out.below (below_drew1 (Below.refl _ _)));have HB3:=As.mk (below_drew1 HB.out);clear HL HQ HB c1;generalize W.drew=w3 at HL3 HQ3 HB3 hHeld ⊢;have HH30:=As.mk hHeld
   refine pI 0 (some 21) (bs 19 1) ?_
   refine pI 1 (some 22) (bs 19 3) ?_
   refine pI 2 (some 23) (bs 19 7) ?_
   refine pI 3 (some 24) (bs 19 15) ?_
   refine pI 5 (some 26) (bs 19 47) ?_
   refine pI 6 (some 27) (bs 19 111) ?_
   refine pI 7 (some 28) (bs 19 239) ?_
   refine pI 8 (some 29) (bs 19 495) ?_
   refine pI 9 (some 30) (bs 19 1007) ?_
   refine pI 10 (some 31) (bs 19 2031) ?_
   refine pI 11 (some 32) (bs 19 4079) ?_
   refine pI 12 (some 33) (bs 19 8175) ?_
   refine pI 13 (some 34) (bs 19 16367) ?_
   refine tI 4 (some 25) (bs 19 16383) rfl (Z88) hHeld ?_
   refine one_ (i:=14) (N:=some 35) (bs 19 32767) rfl rfl (Z15) (Z31) (fun K hK=>?_)
   refine value_ (w1:=w3.alloc (.cells #[.int .i64 (bt s (i:Int)),.int .i64 ((i:Int)-1),.int .i64 ((i:Int)+1)] 280)) (v:=.slice (some ⟨w3.heap.size,0,none⟩) 1 1) (by rfl) rfl ?_ ?_
   ·first|(go_simp;done)|(go_simp;rfl)
   refine hK.out _ _ (pw_cell_below (below_alloc (Below.refl _ _) _) hHeld) (fun hHeld=>?_)
   clear hK K
   refine nI ?_
   refine one_ (i:=15) (N:=some 36) (bs 19 65535) rfl rfl (Z15) (Z31) (fun K hK=>?_)
   refine Kd.R_append_step kNd (w0:=w) w.heap.size (by rfl) (.tmp 25) (.tmp 35) 276 280 (.agg #[.int .i64 0,.int .i64 0,.int .i64 0]) 24 rfl Tryz.underlying276 info_nd rfl (Z31) (Z1) (.slice A L.length cap) L ⟨bt s (i:Int),(i:Int)-1,(i:Int)+1⟩ [.int .i64 (bt s (i:Int)),.int .i64 ((i:Int)-1),.int .i64 ((i:Int)+1)] (fun _=>True) (fun _=>False) rfl ?aX ?aP (fun _ hk=>hk.elim) (fun _ _=>trivial) HL3.out.rows HB3.out HB3.out.size (by have:=HS.out;have:=HLN.out;omega) ?_
   (case aX=>exact rfl)
   (case aP=>exact kNd_mkM _ _ _ ⟨bt s (i:Int),(i:Int)-1,(i:Int)+1⟩)
   intro v1 w4 ho hb4 hg hat
   obtain⟨A1,k1,rfl⟩:=Kd.R_slice ho
   have HB4:=As.mk hb4
   have HT4:=As.mk (HL3.out.told hg ho)
   have HQ4:=As.mk ((HpOf.grown HQ3.out HL3.out hg).far (blk_grown HL3.out.blk hg (Kd.R_ne HL3.out.rows HL3.out.blk (Z31))) (Z1) (Z31) 1 (.slice A1 (L++[(⟨bt s (i:Int),(i:Int)-1,(i:Int)+1⟩:Nd)]).length k1))
   have hfz:=blk_frozen (blk_grown HL3.out.blk hg (Kd.R_ne HL3.out.rows HL3.out.blk (Z31))) 1
   have hS4:=cell_grown hg HH30.out (Kd.R_ne HL3.out.rows HL3.out.blk (Z31))
   clear hb4 hg hat ho
   refine hK.out _ _ hS4 (fun hHeld=>?_)
   clear hK K
   refine norm_ (a':=?_) ?_ ?_
   rotate_left
   ·(show Act.put _ (some 36) _=_;simp only[Act.put,List.setIfInBounds_toArray,List.set_cons_zero,List.set_cons_succ];rfl)
   refine pI 16 (some 37) (bs 19 131071) ?_
   refine pI 17 (some 38) (bs 19 262143) ?_
   refine last_ (i:=18) (N:=none) (bs 19 524287) rfl rfl (Z15) (Z31) (fun K hK=>?_)
   refine skip_ (w1:=w4.setCell ⟨w.heap.size+1,1,none⟩ (.slice A1 (L++[(⟨bt s (i:Int),(i:Int)-1,(i:Int)+1⟩:Nd)]).length k1)) (by rfl) rfl ?_ ?_
   ·first|(go_simp;done)|(go_simp;rfl)
   refine hK.out _ _ ?_
   clear hK K
   refine done_ (Z15) ?_
   rw[←HSU.out]at HT4 HQ4 ⊢
   have HB5:=As.mk (HB4.out.setCell (p:=⟨w.heap.size+1,1,none⟩) (Nat.le_succ _) (.slice A1 L2.length k1))
   clear hw0 hw1 hw2 HL3 HQ3 HB3 HH30 HB4 hHeld hfz
   generalize w4.setCell ⟨w.heap.size+1,1,none⟩ (.slice A1 L2.length k1)=w5 at *
   go_wp2
   go_roundg f
   case measure=>omega
   case rel=>exact⟨i+1,.slice A1 L2.length k1,w5,Z67,Z1,⟨rfl⟩,⟨Z65⟩,⟨by rw[HL2.out];exact HT4.out⟩,HQ4,HB5⟩
  ·obtain rfl:i=s.size:=by omega
   clear HK hlt
   have HGO0:=As.mk (fun i (h:i<s.size)=>nodes_goes s h)
   have HNL:=As.mk (nodesN_len s s.size)
   have HNFL:=As.mk (nodesF_len s)
   by_cases h0:s.size=0
   ·have hL0:nodesN s s.size=[]:=List.eq_nil_of_length_eq_zero (by rw[nodesN_len];exact h0)
    have hF0:nodesF s=[]:=List.eq_nil_of_length_eq_zero (by rw[nodesF_len];exact h0)
    rw[hL0]at HL
    have HLN:=As.mk (show ([]:List Nd).length=s.size from h0.symm)
    have HNF:=As.mk hF0
    have HZ:=As.mk h0
    obtain⟨A,cap,rfl⟩:=Kd.R_slice HL.out.rows
    have c1:=HL.out.c.2.1
    have hzi:(s.size:Int)=0:=Z1
    clear hL0 hF0 h0 HNL HNFL HGO0
    go_wp2_with fail
    have c2:=c1
    go_loopg [60] 0 (fun f v60 w'=>v60=.int .i64 0/\As (W=w'))
    case atStart=>exact⟨rfl,⟨rfl⟩⟩
    case round =>
     obtain⟨rfl,HW⟩:=hrel
     have hW:=HW.out
     subst hW
     clear HW
     go_wp2
     go_ret
     exact⟨_,rfl,⟨w.heap.size,_,[],by rw[HNF.out];exact HL.out,by rw[HZ.out];exact HQ.out,by rw[HNF.out,HZ.out];exact AskedTo.zero _ _ _⟩,HB.out⟩
   ·obtain⟨k,hk⟩:∃ k,s.size=k+1:=⟨s.size-1,Z1⟩
    obtain⟨g,cap,rfl,hbg,hgl,hgc,hgq,hcap,cells,hg⟩:=HL.out.form (Z140)
    have hx:(nodesN s s.size)[k]?=some ⟨bt s (k:Int),(k:Int)-1,(k:Int)+1⟩:=by unfold nodesN;rw[List.getElem?_map,List.getElem?_range (Z1)];rfl
    obtain⟨p1,p2,⟨cs1,p3⟩,p4⟩:=HL.out.put hx 2 (.int .i64 (-1)) ⟨bt s (k:Int),(k:Int)-1,-1⟩ (Z31) rfl
    rw[nodes_last s hk]at p1
    have HL1:=As.mk p1
    have HB1:=As.mk (HB.out.trans p2)
    have HQ1:=As.mk (HQ.out.far p3 p4 (Z31) (k * 3+2) (.int .i64 (-1)))
    have c1:=HL.out.c.2.1
    have a2:=(HL.out.elem hx).1 2 _ rfl
    have az:=(HL.out.elem hx).2 2
    have hlenI:((nodesN s s.size).length:Int)=(k:Int)+1:=Z140
    have hlen0:(0:Int)<((nodesN s s.size).length:Int):=Z1
    have hlen1:((nodesN s s.size).length:Int)-1=(k:Int):=Z1
    have hkI:(k:Int)<((nodesN s s.size).length:Int):=Z1
    have hk0:(0:Int)≤(k:Int):=Z1
    have hlenB:((nodesN s s.size).length:Int)≤200000000:=by have:=HS.out;rw[nodesN_len];omega
    have HLEN:=As.mk (show (nodesN s s.size).length=(nodesF s).length by rw[nodesN_len,nodesF_len])
    have HKK:=As.mk hk
    clear p1 p2 p3 p4 hx hg h0 hk hlenI
    generalize nodesN s s.size=L0 at *
    generalize hNF:nodesF s=L at *
    have HNF:=As.mk hNF
    have HLN:=As.mk HNFL.out
    have HGO:=HGO0
    clear hNF HGO0 HNL HNFL HL HQ HB
    have c11:=HL1.out.c.2.1
    have hL0B:As (L0.length=s.size):=⟨HLEN.out.trans HLN.out⟩
    go_wp2_with fail
    clear c1 a2 az c11
    generalize W.setCell ⟨g,k * 3+2,none⟩ (.int .i64 (-1))=w2 at *
    go_loopg [60] s.size (fun f v60 w'=>∃ (i:Nat) (H:List (Th Wx)) (W:World),v60=.int .i64 (i:Int)/\i≤s.size/\As (W=w')/\As (s.size≤i+f)/\As (LkAt W w.heap.size (w.heap.size+1) (.slice (some ⟨g,0,none⟩) L0.length cap) pt w.heap.size lim 0 L)/\As (HpOf W w.heap.size w.heap.size i H)/\As (AskedTo E lim L i H)/\As (Below w.heap.size w W))
    case atStart=>exact⟨0,[],w2,rfl,Nat.zero_le _,⟨rfl⟩,⟨Z1⟩,HL1,HQ1,⟨AskedTo.zero _ _ _⟩,HB1⟩
    case round =>
     clear HL1 HQ1 HB1
     obtain⟨i,H,W,rfl,hi,HW,HK,HL,HQ,HAT,HB⟩:=hrel
     have hW:=HW.out
     subst hW
     clear HW
     by_cases hlt:i<s.size
     ·obtain⟨f,rfl⟩:∃ f,gk=f+1:=⟨gk-1,Z65⟩
      have hltI:(i:Int)<(L0.length:Int):=by have:=hL0B.out;omega
      have hiB:(i:Int)≤200000000:=Z116
      obtain⟨n,hn1,hn2⟩:=HGO.out i hlt
      have HN:=As.mk (And.intro hn1 hn2)
      clear hn1 hn2
      go_wp2_with (go_at_call 178;refine(asks_any HL.out HQ.out (HTT.out.below HB.out) (i:Int) (.inr ⟨i,n,rfl,HN.out.1,HN.out.2⟩) (by have:=HAT.out.many;have:=HS.out;omega) (Z116)).mono ?_;rintro e w8 ⟨rfl,hask⟩;have HL8:=As.mk hask.link;have HB8:=As.mk (HB.out.trans hask.below);obtain⟨H1,hh1,hh2⟩:=hask.queue;have HA8:=As.mk (HAT.out.step hh1);have HQ8:=As.mk hh2;clear hask hh1 hh2)
      go_roundg f
      case measure=>omega
      case rel=>exact⟨i+1,H1,w8,Z67,Z1,⟨rfl⟩,⟨Z65⟩,HL8,HQ8,HA8,HB8⟩
     ·obtain rfl:i=s.size:=by omega
      have hltI:¬ (s.size:Int)<(L0.length:Int):=by have:=hL0B.out;omega
      go_wp2
      go_ret
      exact⟨_,rfl,⟨w.heap.size,_,H,by rw[HNF.out];exact HL.out,HQ.out,by rw[HNF.out];exact HAT.out⟩,HB.out⟩
end Go.Proofs.YtkffhgiiejbnaaaGreat.Ch
namespace Go.Proofs.YtkffhgiiejbnaaaGreat.Ch
open Go.RowKit YtkffhgiiejbnaaaGreatW.PrintWords YtkffhgiiejbnaaaGreatW.PrintLast YtkffhgiiejbnaaaGreatW.PrintMore Aid Mp Hp Hq Tk
def rules (E:List Ent):List (Int × Int):=(E.drop 256).map (fun x=>(x.f1,x.f2))
def prE (E:List Ent) (a b:Int):Option Int:=(pairP E a b).map (fun i:Nat=>(i:Int))
theorem older_from {E:List Ent} (hG:Tk.Good E):∀ (d i:Nat),256≤i->E.length-i=d->Older (i:Int) ((E.drop i).map (fun x=>(x.f1,x.f2)))
 | 0,i,h1,h2=>by rw[List.drop_eq_nil_of_le (Z1)];trivial
 | d+1,i,h1,h2=>by
  have hlt:i<E.length:=Z1
  rw[List.drop_eq_getElem_cons hlt]
  obtain⟨_,p2,_,p4,_⟩:=hG.par i hlt h1
  have:=older_from hG d (i+1) (Z1) (Z1)
  exact⟨⟨p2,p4⟩,by rw[show (i:Int)+1=((i+1:Nat):Int) from Z1];exact this⟩
theorem rules_older {E:List Ent} (hG:Tk.Good E):Older 256 (rules E):=older_from hG _ 256 (Nat.le_refl _) rfl
theorem rules_at {E:List Ent} {k:Nat} {p q:Int} (h:(rules E)[k]?=some (p,q)):∃ hl:256+k<E.length,(E[256+k]).f1=p/\(E[256+k]).f2=q:=by
 unfold rules at h
 rw[List.getElem?_map,List.getElem?_drop]at h
 obtain⟨x,hx,he⟩:=Option.map_eq_some_iff.1 h
 obtain⟨hl,hx⟩:=List.getElem?_eq_some_iff.1 hx
 injection he with h1 h2
 exact⟨hl,by rw[hx];exact h1,by rw[hx];exact h2⟩
theorem rules_pr {E:List Ent} (hG:Tk.Good E) (k:Nat) (p q:Int) (h:(rules E)[k]?=some (p,q)):prE E p q=some (256+(k:Int)):=by
 obtain⟨hl,h1,h2⟩:=rules_at h
 have:=hG.pair_at hl (Z1)
 rw[h1,h2]at this
 unfold prE
 rw[this]
 simp
theorem pr_rules {E:List Ent} {a b r:Int} (h:prE E a b=some r):∃ k:Nat,r=256+(k:Int)/\(rules E)[k]?=some (a,b)/\256+k<E.length:=by
 unfold prE at h
 obtain⟨i,hi,rfl⟩:=Option.map_eq_some_iff.1 h
 obtain⟨hl,h256,h1,h2⟩:=pairP_some hi
 refine⟨i-256,Z1,?_,Z1⟩
 unfold rules
 rw[List.getElem?_map,List.getElem?_drop,show 256+(i-256)=i from Z1,List.getElem?_eq_getElem hl]
 show some ((E[i]).f1,(E[i]).f2)=_
 rw[h1,h2]
def AllOk (L:List Nd):Prop:=∀ (k:Nat) (n:Nd),L[k]?=some n->(n.next=-1\/∃ j:Nat,j<L.length/\n.next=(j:Int))/\(n.ahead=-1\/∃ j:Nat,j<L.length/\n.ahead=(j:Int))
theorem AllOk.goes {L:List Nd} (h:AllOk L) {k:Nat} {n:Nd} (hn:L[k]?=some n):Goes L n:=by
 rcases (h k n hn).1 with h1|⟨j,h1,h2⟩
 ·exact .inl h1
 ·exact .inr ⟨j,_,h2,List.getElem?_eq_getElem h1⟩
theorem AllOk.nodes (s:ByteArray):AllOk (nodesF s):=by
 intro k n hn
 have hlt:k<s.size:=by rcases Nat.lt_or_ge k s.size with h|h;exact h;rw[List.getElem?_eq_none (by rw[nodesF_len];omega)]at hn;cases hn
 rw[nodesF_at s hlt]at hn
 injection hn with hn
 subst hn
 rw[nodesF_len]
 refine⟨?_,?_⟩
 ·by_cases e:k+1=s.size
  ·exact .inl (by show (if k+1=s.size then (-1:Int) else (k:Int)+1)=_;rw[if_pos e])
  ·exact .inr ⟨k+1,Z1,by show (if k+1=s.size then (-1:Int) else (k:Int)+1)=_;rw[if_neg e];omega⟩
 ·by_cases e:k=0
  ·exact .inl (by show (k:Int)-1=-1;omega)
  ·exact .inr ⟨k-1,Z1,by show (k:Int)-1=_;omega⟩
theorem AllOk.join {L:List Nd} (h:AllOk L) {i j:Nat} {after id:Int} (hi:i<L.length) (ha:after=-1\/∃ k:Nat,k<L.length/\after=(k:Int)):AllOk (joinL L i j after id):=by
 have hmod:∀ (L:List Nd) (p:Nat) (f:Nd->Nd),AllOk L->(∀ n,(n.next=-1\/∃ j:Nat,j<L.length/\n.next=(j:Int))->(n.ahead=-1\/∃ j:Nat,j<L.length/\n.ahead=(j:Int))->((f n).next=-1\/∃ j:Nat,j<L.length/\(f n).next=(j:Int))/\((f n).ahead=-1\/∃ j:Nat,j<L.length/\(f n).ahead=(j:Int)))->AllOk (L.modify p f):=by
  intro L p f hL hf k n hn
  rw[List.length_modify]
  by_cases e:k=p
  ·subst e
   cases hk:L[k]? with
   | none=>rw[List.getElem?_modify]at hn;simp[hk]at hn
   | some x =>
    rw[mod_eq hk]at hn
    injection hn with hn
    subst hn
    exact hf x (hL k x hk).1 (hL k x hk).2
  ·rw[mod_ne e]at hn
   exact hL k n hn
 have h1:=hmod L j (fun n=>⟨-2,n.ahead,n.next⟩) h (fun n a b=>⟨a,b⟩)
 have h2:=hmod _ i (fun n=>⟨id,n.ahead,after⟩) h1 (fun n a b=>⟨by rw[List.length_modify];exact ha,b⟩)
 unfold joinL
 simp only
 split
 ·exact h2
 ·exact hmod _ _ (fun n=>⟨n.id,(i:Int),n.next⟩) h2 (fun n a b=>⟨a,.inr ⟨i,by rw[List.length_modify,List.length_modify];exact hi,rfl⟩⟩)
def QH (H:List (Th Wx)):Wt->Prop:=fun e=>∃ x∈H,x.r=e.rank/\x.p=(e.place:Int)/\x.x.a=e.a/\x.x.b=e.b
structure RunInv (E:List Ent) (N:Nat) (R:List Int) (L:List Nd) (ns:List (Nat × Int)) (B:Nat) (H:List (Th Wx)):Prop where
 chain:ChainIs L ns
 good:AllOk L
 comp:Complete (prE E) ns (QH H)
 ok:∀ x∈H,∃ k:Nat,x.p=(k:Int)/\x.x.f=(k:Int)/\k<L.length/\0≤x.x.a/\prE E x.x.a x.x.b=some x.r
 res:encR (rules E) 256 (ids ns)=R
 bB:B+2 * ns.length≤3 * N
 bH:H.length+2 * ns.length≤3 * N
theorem RunInv.stop {E:List Ent} {N:Nat} {R:List Int} {L:List Nd} {ns:List (Nat × Int)} {B:Nat} (hG:Tk.Good E) (h:RunInv E N R L ns B []):ids ns=R:=by
 rw[←h.res]
 exact(enc_done (rules_pr hG) h.comp (fun e ⟨x,hx,_⟩=>by cases hx)).symm
theorem qh_rest {H H2:List (Th Wx)} {x:Th Wx} {k:Nat} (hp:H.Perm (x::H2)) (hk:x.p=(k:Int)):∀ y,QH H y->y≠⟨x.r,k,x.x.a,x.x.b⟩->QH H2 y:=by
 rintro⟨yr,yp,ya,yb⟩ ⟨z,hz,h1,h2,h3,h4⟩ hne
 simp only at h1 h2 h3 h4
 rcases List.mem_cons.1 (hp.mem_iff.1 hz) with e|hz
 ·subst e
  exact absurd (by rw[←h1,←h3,←h4];congr 1;omega) hne
 ·exact⟨z,hz,h1,h2,h3,h4⟩
theorem RunInv.stale {E:List Ent} {N:Nat} {R:List Int} {L:List Nd} {ns:List (Nat × Int)} {B:Nat} {H H2:List (Th Wx)} {x:Th Wx} {k:Nat} (h:RunInv E N R L ns B H) (hp:H.Perm (x::H2)) (hk:x.p=(k:Int)) (hst:staleB L k x.x.a x.x.b=true):RunInv E N R L ns B H2 :=
 ⟨h.chain,h.good,complete_stale (e:=⟨x.r,k,x.x.a,x.x.b⟩) h.comp (qh_rest hp hk) (stale_yes h.chain hst),fun y hy=>h.ok y (hp.mem_iff.2 (List.mem_cons_of_mem _ hy)),h.res,h.bB,by have:=hp.length_eq;have:=h.bH;simp only[List.length_cons]at *;omega⟩
end Go.Proofs.YtkffhgiiejbnaaaGreat.Ch
namespace Go.Proofs.YtkffhgiiejbnaaaGreat.Ch
open Go.RowKit YtkffhgiiejbnaaaGreatW.PrintWords YtkffhgiiejbnaaaGreatW.PrintLast YtkffhgiiejbnaaaGreatW.PrintMore Aid Mp Hp Hq Tk
theorem lt_of {α:Type} {L:List α} {i:Nat} {x:α} (h:L[i]?=some x):i<L.length:=Z137
theorem AskH.old {o:Option (Int × Int × Int)} {i:Int} {H H':List (Th Wx)} (h:AskH o i H H'):∀ x∈H,x∈H':=by
 cases o with
 | none=>have:H'=H:=h;rw[this];exact fun x hx=>hx
 | some y=>obtain⟨r,a,b⟩:=y;obtain⟨t,ht⟩:=h;rw[ht];exact fun x hx=>List.mem_cons_of_mem _ hx
theorem AskH.new {r a b:Int} {i:Int} {H H':List (Th Wx)} (h:AskH (some (r,a,b)) i H H'):∃ t,(⟨r,i,t,⟨i,a,b⟩⟩:Th Wx)∈H':=by
 obtain⟨t,ht⟩:=h;rw[ht];exact⟨t,List.mem_cons_self ..⟩
theorem AskH.mem {o:Option (Int × Int × Int)} {i:Int} {H H':List (Th Wx)} (h:AskH o i H H'):∀ x∈H',x∈H\/∃ r a b t,o=some (r,a,b)/\x=⟨r,i,t,⟨i,a,b⟩⟩:=by
 cases o with
 | none=>have:H'=H:=h;rw[this];exact fun x hx=>.inl hx
 | some y =>
  obtain⟨r,a,b⟩:=y;obtain⟨t,ht⟩:=h;rw[ht]
  intro x hx
  rcases List.mem_cons.1 hx with e|hx
  ·exact .inr ⟨r,a,b,t,rfl,e⟩
  ·exact .inl hx
theorem ask_pr {E:List Ent} {L:List Nd} {i j:Nat} {n m:Nd} (hi:L[i]?=some n) (hn:n.next=(j:Int)) (hj:L[j]?=some m) {r:Int} (hp:prE E n.id m.id=some r):askF E (E.length:Int) L (i:Int)=some (r,n.id,m.id):=by
 rw[ask_two hi hn hj]
 unfold prE at hp
 obtain⟨k,hk,rfl⟩:=Option.map_eq_some_iff.1 hp
 rw[hk]
 obtain⟨hl,_⟩:=pairP_some hk
 simp only
 rw[if_pos (Z1)]
theorem ask_ok {E:List Ent} {lim:Int} {L:List Nd} {i:Int} {r a b:Int} (h:askF E lim L i=some (r,a,b)):∃ n m,L[i.toNat]?=some n/\n.id=a/\i≠-1/\L[n.next.toNat]?=some m/\m.id=b/\n.next≠-1/\prE E a b=some r:=by
 unfold askF at h
 by_cases h1:i=-1
 ·rw[if_pos h1]at h;cases h
 ·rw[if_neg h1]at h
  cases hn:L[i.toNat]? with
  | none=>rw[hn]at h;cases h
  | some n =>
   rw[hn]at h
   simp only at h
   by_cases h2:n.next=-1
   ·rw[if_pos h2]at h;cases h
   ·rw[if_neg h2]at h
    cases hm:L[n.next.toNat]? with
    | none=>rw[hm]at h;cases h
    | some m =>
     rw[hm]at h
     simp only at h
     cases hp:pairP E n.id m.id with
     | none=>rw[hp]at h;cases h
     | some k =>
      rw[hp]at h
      simp only at h
      by_cases h3:(k:Int)<lim
      ·rw[if_pos h3]at h
       injection h with h;injection h with h4 h;injection h with h5 h6
       subst h5;subst h6
       exact⟨n,m,rfl,rfl,h1,hm,rfl,h2,by unfold prE;rw[hp];simp[h4]⟩
      ·rw[if_neg h3]at h;cases h
structure JoinPre (E:List Ent) (L:List Nd) (k:Nat) (id:Int) (n:Nd) (j:Nat) (m:Nd) (after:Int):Prop where
 ne:k≠j
 hk:L[k]?=some n
 hn:n.next=(j:Int)
 hj:L[j]?=some m
 hm:m.next=after
 ha:after=-1\/∃ (p:Nat) (x:Nd),after=(p:Int)/\p≠k/\p≠j/\L[p]?=some x
 hI:(joinL L k j after id)[k]?=some ⟨id,n.ahead,after⟩
 good:AllOk (joinL L k j after id)
theorem JoinPre.ahead {E:List Ent} {L:List Nd} {k:Nat} {id:Int} {n:Nd} {j:Nat} {m:Nd} {after:Int} (h:JoinPre E L k id n j m after):n.ahead=-1\/∃ (k0:Nat) (x:Nd),n.ahead=(k0:Int)/\(joinL L k j after id)[k0]?=some x/\Goes (joinL L k j after id) x:=by
 rcases (h.good k _ h.hI).2 with h1|⟨p,h1,h2⟩
 ·exact .inl h1
 ·exact .inr ⟨p,_,h2,List.getElem?_eq_getElem h1,h.good.goes (List.getElem?_eq_getElem h1)⟩
theorem RunInv.join {E:List Ent} {N:Nat} {R:List Int} {L:List Nd} {ns:List (Nat × Int)} {B:Nat} {H H2:List (Th Wx)} {x:Th Wx} {k:Nat} (hG:Tk.Good E) (h:RunInv E N R L ns B H) (hp:H.Perm (x::H2)) (hle:∀ y∈H,Hq.Le x y) (hk:x.p=(k:Int)) (hst:staleB L k x.x.a x.x.b=false) :
  ∃ n j m after,JoinPre E L k x.r n j m after/\∀ H1 H3,AskH (askF E (E.length:Int) (joinL L k j after x.r) n.ahead) n.ahead H2 H1->AskH (askF E (E.length:Int) (joinL L k j after x.r) (k:Int)) (k:Int) H1 H3->∃ ns',RunInv E N R (joinL L k j after x.r) ns' (B+2) H3/\ns'.length+1=ns.length:=by
 obtain⟨k',hk',hkf,hkl,ha0,hpr⟩:=h.ok x (hp.mem_iff.2 (List.mem_cons_self ..))
 have ek:k'=k:=Z1
 subst ek
 obtain⟨r,hr,hrs,hrl⟩:=pr_rules hpr
 obtain⟨u,j,v,e⟩:=stale_no h.chain ha0 hst
 subst e
 have hs:=h.chain.sorted
 have hkj:k'<j:=(Sorted.right (u:=u) hs).1
 obtain⟨q,g1,g2,g3,g4⟩:=Links.at_ h.chain.links
 obtain⟨q',g5,g6,_,_⟩:=Links.at_ (u:=u++[(k',x.x.a)]) (i:=j) (a:=x.x.b) (v:=v) (p:=-1) (by simpa using h.chain.links)
 have hnxt:nxt ((j,x.x.b)::v)=(j:Int):=rfl
 rw[hnxt]at g1
 have hid:0≤x.r:=Z1
 have hcj:=h.chain.join (id:=x.r) hid
 have hvk:nxt v≠(k':Int):=by
  cases v with
  | nil=>show (-1:Int)≠_;omega
  | cons y v =>
   have:=Sorted.lt (Sorted.right (u:=u) hs) (y:=y) (by simp)
   show (y.1:Int)≠_;simp only at this;omega
 have hI:=joinL_i (id:=x.r) g1 (Nat.ne_of_lt hkj) hvk (nxt_ok v)
 have hafter:nxt v=-1\/∃ (p:Nat) (z:Nd),nxt v=(p:Int)/\p≠k'/\p≠j/\L[p]?=some z:=by
  cases v with
  | nil=>exact .inl rfl
  | cons y v =>
   obtain⟨q2,g7,_⟩:=Links.at_ (u:=u++[(k',x.x.a),(j,x.x.b)]) (i:=y.1) (a:=y.2) (v:=v) (p:=-1) (by simpa using h.chain.links)
   have h1:=Sorted.lt (Sorted.right (u:=u) hs) (y:=y) (by simp)
   have h2:=Sorted.lt (Sorted.right (u:=u) hs).2 (y:=y) (by simp)
   simp only at h1 h2
   exact .inr ⟨y.1,_,rfl,Z1,Z1,g7⟩
 have hgood:AllOk (joinL L k' j (nxt v) x.r):=h.good.join hkl (by
  rcases hafter with h1|⟨p,z,h1,_,_,h2⟩
  ·exact .inl h1
  ·exact .inr ⟨p,lt_of h2,h1⟩)
 refine⟨_,j,_,nxt v,⟨Nat.ne_of_lt hkj,g1,rfl,g5,rfl,hafter,hI,hgood⟩,fun H1 H3 hA1 hA3=>⟨u++(k',x.r)::v,⟨hcj,hgood,?_,?_,?_,?_,?_⟩,by simp only[List.length_append,List.length_cons];omega⟩⟩
 ·
  refine complete_join (e:=⟨x.r,k',x.x.a,x.x.b⟩) (Q:=QH H) rfl (fun y hy hne=>?_) (fun y v0 hv id2 hp2=>?_) u hs h.comp (fun u0 p hu id2 hp2=>?_)
  ·obtain⟨z,hz,hz2⟩:=qh_rest hp hk' y hy hne
   exact⟨z,hA3.old z (hA1.old z hz),hz2⟩
  ·subst hv
   obtain⟨q2,g7,_⟩:=Links.at_ (u:=u++[(k',x.r)]) (i:=y.1) (a:=y.2) (v:=v0) (p:=-1) (by simpa using hcj.links)
   have hask:=ask_pr hI (show nxt (y::v0)=(y.1:Int) from rfl) g7 hp2
   rw[hask]at hA3
   obtain⟨t,ht⟩:=hA3.new
   exact⟨_,ht,rfl,rfl,rfl,rfl⟩
  ·subst hu
   obtain⟨q2,g7,_⟩:=Links.at_ (u:=u0) (i:=p.1) (a:=p.2) (v:=(k',x.r)::v) (p:=-1) (by simpa using hcj.links)
   have hq:=g4 u0 p rfl
   have hask:=ask_pr g7 (show nxt ((k',x.r)::v)=(k':Int) from rfl) hI hp2
   simp only at hA1
   rw[hq,hask]at hA1
   obtain⟨t,ht⟩:=hA1.new
   exact⟨_,hA3.old _ ht,rfl,rfl,rfl,rfl⟩
 ·
  intro y hy
  rcases hA3.mem y hy with hy|⟨r2,a2,b2,t,ho,hy⟩
  ·rcases hA1.mem y hy with hy|⟨r2,a2,b2,t,ho,hy⟩
   ·obtain⟨k2,f1,f2,f3,f4,f5⟩:=h.ok y (hp.mem_iff.2 (List.mem_cons_of_mem _ hy))
    exact⟨k2,f1,f2,by rw[joinL_len];exact f3,f4,f5⟩
   ·subst hy
    obtain⟨n2,m2,f1,f2,f3,f4,f5,f6,f7⟩:=ask_ok ho
    rcases List.eq_nil_or_concat u with hu|⟨u0,p,hu⟩
    ·exact absurd (g3 hu) f3
    ·rw[List.concat_eq_append]at hu
     have hq:=g4 u0 p hu
     subst hu
     obtain⟨q2,g7,g8,_⟩:=Links.at_ (u:=u0) (i:=p.1) (a:=p.2) (v:=(k',x.r)::v) (p:=-1) (by simpa using hcj.links)
     refine⟨p.1,hq,hq,lt_of g7,?_,f7⟩
     simp only at f1
     rw[hq,Int.toNat_natCast,g7]at f1
     injection f1 with f1
     rw[←f2,←f1]
     exact g8
  ·subst hy
   obtain⟨n2,m2,f1,f2,f3,f4,f5,f6,f7⟩:=ask_ok ho
   refine⟨k',rfl,rfl,lt_of hI,?_,f7⟩
   rw[Int.toNat_natCast,hI]at f1
   injection f1 with f1
   rw[←f2,←f1]
   exact hid
 ·
  rw[←h.res,hr]
  refine(enc_join (Q:=QH H) (rules_older hG) (rules_pr hG) hs h.comp hrs (fun y hy=>?_)).symm
  obtain⟨z,hz,h1,h2,h3,h4⟩:=hy
  have:=(le_iff x z).1 (hle z hz)
  rw[←h1,←hr]
  simp only
  omega
 ·have:=h.bB;simp only[List.length_append,List.length_cons]at *;omega
 ·have h1:=h.bH;have h2:=hp.length_eq;have h3:=hA1.len;have h4:=hA3.len;simp only[List.length_append,List.length_cons]at *;omega
end Go.Proofs.YtkffhgiiejbnaaaGreat.Ch
namespace Go.Proofs.YtkffhgiiejbnaaaGreat.Ch
open Go.RowKit YtkffhgiiejbnaaaGreatW.PrintWords YtkffhgiiejbnaaaGreatW.PrintLast YtkffhgiiejbnaaaGreatW.PrintMore Aid Mp Hp Hq Tk
theorem join_any {w:World} {base c:Nat} {v:Value} {pt q:Nat} {lim st:Int} {L:List Nd} {B:Nat} {H:List (Th Wx)} {E:List Ent} {W0:World} (HL:LkAt w base c v pt q lim st L) (HQ:HpOf w base q B H) (hW0:W0.heap.size≤base) (HT0:TabAt W0 pt E) (HB0:Below base W0 w) {k j:Nat} {id after:Int} {n m:Nd} (h:JoinPre E L k id n j m after) (hHl:H.length≤800000000) (hB:B≤800000000) :
  Calls Tryz.prog 181 #[.pointer (some ⟨c,0,none⟩),.int .i64 (k:Int),.int .i64 id] w fun e w'=>e=.returned (.tuple #[])/\Joined w w' base c v pt q lim (joinL L k j after id) B H (askF E lim (joinL L k j after id) n.ahead) n.ahead (askF E lim (joinL L k j after id) (k:Int)) (k:Int):=by
 have hg:=h.good.goes h.hI
 have ha:=h.ahead
 rcases h.ha with e|⟨p,x,e,h1,h2,h3⟩
 ·have hm:=h.hm
  have hI:=h.hI
  subst e
  exact join_end HL HQ hW0 HT0 HB0 k j id h.ne h.hk h.hn h.hj hm hI hg ha hHl hB
 ·have hm:=h.hm
  have hI:=h.hI
  subst e
  exact join_two HL HQ hW0 HT0 HB0 k j id h.ne h.hk h.hn h.hj hm h1 h2 h3 hI hg ha hHl hB
structure Ran (w w':World) (base c pt q:Nat) (lim:Int) (R:List Int):Prop where
 mk::(out:∃ v st L ns,LkAt w' base c v pt q lim st L/\ChainIs L ns/\ids ns=R/\L.length≤200000000) (below:Below base w w')
theorem run_any {w:World} {base c:Nat} {v:Value} {pt q:Nat} {st:Int} {L:List Nd} {B N:Nat} {H:List (Th Wx)} {E:List Ent} {W0:World} {R:List Int} {ns:List (Nat × Int)} (hG:Tk.Good E) (HL:LkAt w base c v pt q (E.length:Int) st L) (HQ:HpOf w base q B H) (hW0:W0.heap.size≤base) (HT0:TabAt W0 pt E) (HB0:Below base W0 w) (HI:RunInv E N R L ns B H) (hN:N≤200000000) (hL:L.length≤200000000) :
  Calls Tryz.prog 174 #[.pointer (some ⟨c,0,none⟩)] w fun e w'=>e=.returned (.tuple #[])/\Ran w w' base c pt q (E.length:Int) R:=by
 have HL0:=As.mk HL
 have HQ0:=As.mk HQ
 have HI0:=As.mk HI
 have HTT:=As.mk (And.intro HT0 (And.intro HB0 hW0))
 have HN:=As.mk hN
 have HGG:=As.mk hG
 have HLL:=As.mk hL
 clear HL HQ HI HT0 HB0 hW0 hN hG hL
 go_enter Tryz.func174,Tryz.ntmps174
 go_wp2_with fail
 go_loopg [] (H.length+3 * ns.length) (fun f w'=>∃ (v:Value) (st:Int) (L2:List Nd) (ns2:List (Nat × Int)) (B2:Nat) (H2:List (Th Wx)) (W:World),As (W=w')/\As (H2.length+3 * ns2.length≤f)/\As (LkAt W base c v pt q (E.length:Int) st L2)/\As (HpOf W base q B2 H2)/\As (RunInv E N R L2 ns2 B2 H2)/\As (Below base w W)/\As (L2.length=L.length))
 case atStart=>exact⟨v,st,L,ns,B,H,w,⟨rfl⟩,⟨Nat.le_refl _⟩,HL0,HQ0,HI0,⟨Below.refl _ _⟩,⟨rfl⟩⟩
 case round =>
  clear HL0 HQ0 HI0
  obtain⟨v,st,L2,ns2,B2,H2,W,HW,HK,HL,HQ,HI,HB,HLN⟩:=hrel
  have hW:=HW.out
  subst hW
  clear HW
  have c2:=HL.out.c.2.2.1
  have hHb:H2.length≤700000000:=by have:=HI.out.bH;have:=HN.out;omega
  have hBb:B2≤700000000:=by have:=HI.out.bB;have:=HN.out;omega
  cases H2 with
  | nil =>
   have HS:=As.mk (HI.out.stop HGG.out)
   have HI1:=As.mk HI.out.chain
   clear HI
   go_wp2_with (go_at_call 179;refine(pop_no HQ.out).mono ?_;rintro e w1 ⟨rfl,hb⟩;have HB1:=As.mk (HB.out.trans (hb.mono (Nat.le_trans HL.out.le (Nat.le_of_lt HL.out.lt))));have HL1:=As.mk (HL.out.below hb);clear hb)
   refine bodyPost_ret (results_none rfl _ _ _) rfl ?_
   exact⟨rfl,⟨v,st,L2,ns2,(HL1.out.below (below_alloc (Below.refl _ _) _)),HI1.out,HS.out,by rw[HLN.out];exact HLL.out⟩,HB1.out.trans ((below_alloc (Below.refl _ _) _).mono (Nat.le_trans HL1.out.le (Nat.le_of_lt HL1.out.lt)))⟩
  | cons y0 Y =>
   generalize hY:y0::Y=H2 at *
   have hpos:0<H2.length:=by rw[←hY];simp
   clear hY
   obtain⟨f,rfl⟩:∃ f,gk=f+1:=⟨gk-1,Z65⟩
   go_wp2_with (go_at_call 179;fail)
   refine(pop_yes HQ.out hpos (Z1)).mono ?_
   intro e w1 hpop
   obtain⟨⟨x,l2,rfl,hp,hle,hq⟩,hb,hkk⟩:=hpop
   obtain⟨k,ok1,ok2,ok3,ok4,ok5⟩:=HI.out.ok x (hp.mem_iff.2 (List.mem_cons_self ..))
   have HL1:=As.mk (HL.out.kept hkk (HpOf.qt hq))
   have HB1:=As.mk (HB.out.trans hb)
   have HQ1:=As.mk hq
   have HPM:=As.mk hp
   have HLE:=As.mk hle
   have HPK:=As.mk ok1
   obtain⟨n0,hn0⟩:∃ n0,L2[k]?=some n0:=⟨_,List.getElem?_eq_getElem ok3⟩
   have HN0:=As.mk (And.intro hn0 (HI.out.good.goes hn0))
   obtain⟨r,p,t,f0,a,b⟩:=x
   simp only at ok1 ok2 ok4 ok5
   subst ok2
   have hba:=below_alloc (Below.refl w1.heap.size w1) (.cells #[.int .i64 (k:Int),.int .i64 a,.int .i64 b] 275)
   have HM2:=As.mk (Go.MapKept.heap_alloc w1 (.cells #[.int .i64 (k:Int),.int .i64 a,.int .i64 b] 275)).1
   have HL2:=As.mk (HL1.out.below hba)
   have HQ2:=As.mk (HQ1.out.below hba)
   have HB2:=As.mk (HB1.out.trans (hba.mono (Nat.le_trans HL1.out.le (Nat.le_of_lt HL1.out.lt))))
   clear hp hle hq hb hkk hn0 ok1 ok3 ok4 ok5 hba HL HQ HB HL1 HQ1 HB1 c2
   have m0:=cell_of (i:=0) HM2.out rfl
   have m1:=cell_of (i:=1) HM2.out rfl
   have m2:=cell_of (i:=2) HM2.out rfl
   go_wp2_with (go_at_call 180;fail)
   refine(stale_any HL2.out k a b HN0.out.1 HN0.out.2).mono ?_
   rintro e w3 ⟨rfl,hb3⟩
   have HL3:=As.mk (HL2.out.below hb3)
   have HQ3:=As.mk (HQ2.out.below hb3)
   have HB3:=As.mk (HB2.out.trans (hb3.mono (Nat.le_trans HL2.out.le (Nat.le_of_lt HL2.out.lt))))
   have HM3:=As.mk ((hb3.block _ (blk_lt HM2.out)).trans HM2.out)
   clear hb3 m0 m1 m2 HL2 HQ2 HB2 HM2
   cases hst:staleB L2 k a b with
   | true =>
    have HI3:=As.mk (HI.out.stale HPM.out HPK.out hst)
    have HLL2:=As.mk (HPM.out.length_eq)
    clear hst HI
    go_wp2
    go_roundg f
    case measure=>omega
    case rel=>exact⟨v,st,L2,ns2,B2,l2,_,⟨rfl⟩,⟨by have:=HK.out;have:=HLL2.out;simp only[List.length_cons]at this;omega⟩,HL3,HQ3,HI3,HB3,HLN⟩
   | false =>
    obtain⟨n,j,m,after,hpre,hnext⟩:=HI.out.join HGG.out HPM.out HLE.out HPK.out hst
    have HPRE:=As.mk hpre
    have HNEXT:=As.mk hnext
    have HLL2:=As.mk (HPM.out.length_eq)
    have hl2:l2.length≤700000000:=by have:=HLL2.out;simp only[List.length_cons]at this;omega
    simp only at HPRE HNEXT
    clear hst HI hpre hnext
    have m0:=cell_of (i:=0) HM3.out rfl
    go_wp2_with (go_at_call 181;fail)
    refine(join_any HL3.out HQ3.out HTT.out.2.2 HTT.out.1 (HTT.out.2.1.trans HB3.out) HPRE.out (Z1) (Z1)).mono ?_
    rintro e w4 ⟨rfl,⟨⟨st4,hl4⟩,hb4,H1,H3,ha1,ha3,hq4⟩⟩
    obtain⟨ns4,hi4,hn4⟩:=HNEXT.out H1 H3 ha1 ha3
    have HL4:=As.mk hl4
    have HB4:=As.mk (HB3.out.trans hb4)
    have HQ4:=As.mk hq4
    have HI4:=As.mk hi4
    have HN4:=As.mk hn4
    have HA4:=As.mk (And.intro ha1.len ha3.len)
    have HJL:=As.mk (joinL_len L2 k j after r)
    clear hl4 hb4 hq4 hi4 hn4 ha1 ha3 m0 HNEXT HPRE HL3 HQ3 HB3 HM3
    go_wp2
    go_roundg f
    case measure=>omega
    case rel=>exact⟨v,st4,_,ns4,_,H3,_,⟨rfl⟩,⟨by have:=HK.out;have:=HLL2.out;have:=HA4.out;have:=HN4.out;simp only[List.length_cons]at *;omega⟩,HL4,HQ4,HI4,HB4,⟨HJL.out.trans HLN.out⟩⟩
end Go.Proofs.YtkffhgiiejbnaaaGreat.Ch
namespace Go.Proofs.YtkffhgiiejbnaaaGreat.Ch
open Go.RowKit YtkffhgiiejbnaaaGreatW.PrintWords YtkffhgiiejbnaaaGreatW.PrintLast YtkffhgiiejbnaaaGreatW.PrintMore Aid Mp Hp Hq Tk
theorem info_i:(Tryz.prog.info? 3).map (fun i=>(i.zero,i.size,i.bytes))=some (some (.int .i64 0),1,8):=Z15
theorem ids_len (ns:List (Nat × Int)):(ids ns).length=ns.length:=by simp[ids]
theorem ids_any {w:World} {base c:Nat} {v:Value} {pt q:Nat} {lim st:Int} {L:List Nd} {ns:List (Nat × Int)} (HL:LkAt w base c v pt q lim st L) (HC:ChainIs L ns) (hN:ns.length≤1000000000) :
  Calls Tryz.prog 175 #[.pointer (some ⟨c,0,none⟩)] w fun e w'=>∃ sv,e=.returned sv/\Kd.R (Kd.int .i64) 3 w' w.heap.size (fun _=>True) sv (ids ns)/\Below w.heap.size w w':=by
 have HL:=As.mk HL
 have HC:=As.mk HC
 have HNN:=As.mk hN
 obtain⟨A,cap,rfl⟩:=Kd.R_slice HL.out.rows
 rename_i x1 x2
 clear x1 x2 hN
 have hstart:∃ p:Int,p=0/\(p=nxt ns\/(L.length=0/\p=0/\ns=[])):=by
  refine⟨0,rfl,?_⟩
  rcases Nat.eq_zero_or_pos L.length with h|h
  ·exact .inr ⟨h,rfl,HC.out.empty h⟩
  ·obtain⟨a,u,e⟩:=HC.out.begin_ h
   exact .inl (by rw[e];rfl)
 obtain⟨p0,hp0,hst⟩:=hstart
 have HST:=As.mk hst
 subst hp0
 clear hst
 go_enter Tryz.func175,Tryz.ntmps175
 go_wp2_with fail
 go_loopg [3,4] ns.length (fun f v3 v4 w'=>∃ (p:Int) (xs:List Int) (u r:List (Nat × Int)),v4=.int .i64 p/\As (ns=u++r)/\As (ids u=xs)/\As (p=nxt r\/(L.length=0/\p=0/\r=[]))/\As (r.length≤f)/\As (Kd.R (Kd.int .i64) 3 w' w.heap.size (fun _=>True) v3 xs)/\As (Below w.heap.size w w'))
 case atStart=>exact⟨0,[],[],ns,rfl,⟨rfl⟩,⟨rfl⟩,⟨HST.out.imp id (fun h=>⟨h.1,rfl,h.2.2⟩)⟩,⟨Nat.le_refl _⟩,⟨Kd.R_nil _ _ _ _ _⟩,⟨Below.refl _ _⟩⟩
 case round =>
  clear HST
  obtain⟨p,xs,u,r,rfl,HNS,HXS,HP,HK,HO,HB⟩:=hrel
  cases r with
  | nil =>
   have HE:=As.mk (show ids ns=xs by rw[HNS.out,List.append_nil,HXS.out])
   rcases HP.out with hp|⟨hl,hp,_⟩
   ·have hp':p=-1:=hp
    subst hp'
    clear HP
    go_wp2
    go_ret
    exact⟨_,rfl,by rw[HE.out];exact HO.out,HB.out⟩
   ·subst hp
    clear HP
    have c1:=(HL.out.below HB.out).c.2.1
    have hlI:¬ (0:Int)<(L.length:Int):=Z1
    clear hl
    go_wp2
    go_ret
    exact⟨_,rfl,by rw[HE.out];exact HO.out,HB.out⟩
  | cons y r =>
   obtain⟨i,a⟩:=y
   have hp:p=(i:Int):=by
    rcases HP.out with h|⟨_,_,h⟩
    ·exact h
    ·cases h
   subst hp
   obtain⟨q1,g1,g2,_⟩:=Links.at_ (u:=u) (i:=i) (a:=a) (v:=r) (p:=-1) (by rw[←HNS.out];exact HC.out.links)
   have HX:=As.mk g1
   have hil:=lt_of g1
   have hiI:(i:Int)<(L.length:Int):=Z1
   have hi0:(0:Int)≤(i:Int):=Z1
   have hi1:((i:Int) != -1)=true:=Z182
   obtain⟨g,cap',hform,_,_,_,_,_,cells,hg⟩:=HL.out.form (Z1)
   injection hform with hform _ hform3
   subst hform;subst hform3
   obtain⟨f,rfl⟩:∃ f,gk=f+1:=⟨gk-1,Z141⟩
   have HXL:=As.mk (show xs.length+1≤1000000000 by rw[←HXS.out,ids_len];have:=HNN.out;rw[HNS.out]at this;simp only[List.length_append,List.length_cons]at this;omega)
   have c1:=(HL.out.below HB.out).c.2.1
   have a0:=((HL.out.below HB.out).elem HX.out).1 0 _ rfl
   simp only[Nat.add_zero]at a0
   clear HP hg g1 hil
   go_wp2_with ((with_reducible refine gate_builtin (b:=.append) (xs:=#[.tmp 24,.tmp 33]) rfl ?_);at_builtin;refine Kd.R_append (Kd.int .i64) (w0:=w) w.heap.size rfl (.tmp 24) (.tmp 33) 41 3 (.int .i64 0) 8 rfl Tryz.underlying41 info_i rfl (Z31) (Z1) _ xs a [.int .i64 a] (fun _=>True) (fun _=>False) rfl ?aX ?aP (fun _ hk=>hk.elim) ?aF ?aO ?aB ?aS ?aL ?_;(case aX=>exact Z66);(case aP=>exact rfl);(case aF=>exact Z32);(case aO=>exact(Z92));(case aB=>exact(Z20));(case aS=>exact Z177);(case aL=>(have:=HXL.out;omega));intro v1 w1 ho hb hg hat;clear c1 a0;have hh:=HL.out.below hb;have c1:=hh.c.2.1;have a2:=(hh.elem HX.out).1 2 _ rfl;clear hh;have HO_:=As.mk ho;have HB_:=As.mk hb;clear HO HB ho hb hg hat;have HO:=HO_;have HB:=HB_;clear HO_ HB_)
   go_roundg f
   case measure=>omega
   case rel=>exact⟨nxt r,xs++[a],u++[(i,a)],r,rfl,⟨by rw[HNS.out];simp⟩,⟨by rw[←HXS.out];simp[ids]⟩,⟨.inl rfl⟩,⟨Z141⟩,HO,HB⟩
def chainB (s:ByteArray):List (Nat × Int):=(List.range s.size).map (fun i:Nat=>(i,bt s (i:Int)))
theorem chainB_from (s:ByteArray):∀ (d i:Nat) (p:Int),s.size-i=d->i≤s.size->(p=(i:Int)-1)->Links (nodesF s) p ((List.range' i d).map (fun i:Nat=>(i,bt s (i:Int))))/\Sorted ((List.range' i d).map (fun i:Nat=>(i,bt s (i:Int))))
 | 0,i,p,h1,h2,hp=>⟨trivial,trivial⟩
 | d+1,i,p,h1,h2,hp=>by
  obtain⟨k1,k2⟩:=chainB_from s d (i+1) (i:Int) (Z1) (Z1) (Z1)
  rw[List.range'_succ,List.map_cons]
  have hb:=bt_range s (i:Int)
  refine⟨⟨?_,hb.1,k1⟩,?_⟩
  ·rw[nodesF_at s (Z1),hp]
   congr 2
   cases d with
   | zero=>rw[if_pos (Z1)];rfl
   | succ d=>rw[if_neg (Z1),List.range'_succ,List.map_cons];show _=((i+1:Nat):Int);omega
  ·cases d with
   | zero=>exact trivial
   | succ d=>rw[List.range'_succ,List.map_cons]at k2 ⊢;exact⟨Nat.lt_succ_self i,k2⟩
theorem chainB_is (s:ByteArray):ChainIs (nodesF s) (chainB s):=by
 have h:=chainB_from s s.size 0 (-1) (Z1) (Z1) (Z1)
 rw[←List.range_eq_range']at h
 refine⟨h.1,h.2,fun k n hk hn=>?_,fun h0=>?_,fun h0=>?_⟩
 ·have hlt:=lt_of hk
  rw[nodesF_len]at hlt
  exact absurd (List.mem_map.2 ⟨k,List.mem_range.2 hlt,rfl⟩) (hn (bt s (k:Int)))
 ·rw[nodesF_len]at h0
  obtain⟨n,hn⟩:∃ n,s.size=n+1:=⟨s.size-1,Z1⟩
  unfold chainB
  rw[hn,List.range_succ_eq_map,List.map_cons]
  exact⟨_,_,rfl⟩
 ·rw[nodesF_len]at h0
  unfold chainB
  rw[h0];rfl
theorem ids_chainB (s:ByteArray):ids (chainB s)=(List.range s.size).map (fun i:Nat=>bt s (i:Int)):=by
 unfold ids chainB;rw[List.map_map];rfl
theorem run_begin {E:List Ent} {s:ByteArray} {H:List (Th Wx)} (h:AskedTo E (E.length:Int) (nodesF s) s.size H):RunInv E s.size (encR (rules E) 256 (ids (chainB s))) (nodesF s) (chainB s) s.size H:=by
 refine⟨chainB_is s,AllOk.nodes s,fun u i a j b v id hn hp=>?_,fun x hx=>?_,rfl,by simp[chainB];omega,by have:=h.many;simp[chainB];omega⟩
 ·have hc:=(chainB_is s).links
  rw[hn]at hc
  obtain⟨q,g1,_⟩:=Links.at_ hc
  obtain⟨q',g2,_⟩:=Links.at_ (u:=u++[(i,a)]) (i:=j) (a:=b) (v:=v) (p:=-1) (by simpa using hc)
  have hlt:=lt_of g1
  rw[nodesF_len]at hlt
  obtain⟨t,ht⟩:=h.all i id a b hlt (ask_pr g1 rfl g2 hp)
  exact⟨_,ht,rfl,rfl,rfl,rfl⟩
 ·obtain⟨k,h1,h2,h3,h4⟩:=h.only x hx
  obtain⟨n,m,f1,f2,f3,f4,f5,f6,f7⟩:=ask_ok h4
  refine⟨k,h2,h3,by rw[nodesF_len];exact h1,?_,f7⟩
  rw[Int.toNat_natCast,nodesF_at s h1]at f1
  injection f1 with f1
  rw[←f2,←f1]
  exact(bt_range s _).1
def encS (E:List Ent) (s:ByteArray):List Int:=encR (rules E) 256 ((List.range s.size).map (fun i:Nat=>bt s (i:Int)))
theorem passL_len (a b id:Int):∀ l:List Int,(passL a b id l).length≤l.length
 | []=>by unfold passL;simp
 | [x]=>by unfold passL;simp
 | x::y::l=>by
  unfold passL
  split
  ·have:=passL_len a b id l;simp only[List.length_cons];omega
  ·have:=passL_len a b id (y::l);simp only[List.length_cons]at *;omega
theorem encR_len:∀ (rs:List (Int × Int)) (id:Int) (l:List Int),(encR rs id l).length≤l.length
 | [],_,l=>Nat.le_refl _
 | r::rs,id,l=>Nat.le_trans (encR_len rs (id+1) _) (passL_len _ _ _ l)
theorem encS_len (E:List Ent) (s:ByteArray):(encS E s).length≤s.size:=by
 have:=encR_len (rules E) 256 ((List.range s.size).map (fun i:Nat=>bt s (i:Int)))
 simpa[encS] using this
theorem len_of {p:Nat} {E:List Ent} {w:World} (h:TabAt w p E):Calls Tryz.prog 121 #[.pointer (some ⟨p,0,none⟩)] w fun e w'=>e=.returned (.int .i64 E.length)/\w=w':=by
 obtain⟨A,c,h1,_⟩:=h.rows
 exact len_raw p E.length c A w h1
theorem below_any {w:World} {pt:Nat} {E:List Ent} (hG:Tk.Good E) (HT:TabAt w pt E) (s:ByteArray) (hs:s.size≤200000000) :
  Calls Tryz.prog 163 #[.pointer (some ⟨pt,0,none⟩),.string s,.int .i64 (E.length:Int)] w fun e w'=>∃ sv,e=.returned sv/\Kd.R (Kd.int .i64) 3 w' w.heap.size (fun _=>True) sv (encS E s)/\Below w.heap.size w w':=by
 have HTT:=As.mk HT
 have HGG:=As.mk hG
 have HSS:=As.mk hs
 clear HT hG hs
 go_enter Tryz.func163,Tryz.ntmps163
 go_wp2_with (first
  | (go_at_call 173;refine(begin_any HTT.out s HSS.out (E.length:Int)).mono ?_;rintro e w1 ⟨c,rfl,⟨q,v,H,hl,hq,hat⟩,hb⟩;have HL1:=As.mk hl;have HQ1:=As.mk hq;have HB1:=As.mk hb;have HI1:=As.mk (run_begin hat);clear hl hq hb hat)
  | (go_at_call 174;refine(run_any HGG.out HL1.out HQ1.out (Nat.le_refl _) HTT.out HB1.out HI1.out HSS.out (by rw[nodesF_len];exact HSS.out)).mono ?_;rintro e w2 ⟨rfl,⟨v2,st2,L2,ns2,hl,hc,hi,hn⟩,hb⟩;have HL2:=As.mk hl;have HC2:=As.mk hc;have HI2:=As.mk hi;have HB2:=As.mk (HB1.out.trans hb);clear hl hc hi hn hb HL1 HQ1 HB1 HI1;have HL3:=As.mk (show ns2.length≤1000000000 by have h1:=encR_len (rules E) 256 (ids (chainB s));rw[←HI2.out,ids_len]at h1;have h2:(ids (chainB s)).length=s.size:=(by rw[ids_len];simp[chainB]);have:=HSS.out;omega))
  | (go_at_call 175;refine(ids_any HL2.out HC2.out HL3.out).mono ?_;rintro e w3 ⟨sv,rfl,ho,hb⟩;have HO3:=As.mk ho;have HB3:=As.mk (bt_ HB2.out hb);have HLE:=As.mk HB2.out.size;clear ho hb))
 go_ret
 refine⟨_,rfl,?_,HB3.out⟩
 have h:=Kd.R_lower HO3.out HLE.out
 rw[HI2.out,ids_chainB]at h
 exact h
theorem encode_any {w:World} {pt:Nat} {E:List Ent} (hG:Tk.Good E) (HT:TabAt w pt E) (s:ByteArray) (hs:s.size≤200000000) :
  Calls Tryz.prog 130 #[.pointer (some ⟨pt,0,none⟩),.string s] w fun e w'=>∃ sv,e=.returned sv/\Kd.R (Kd.int .i64) 3 w' w.heap.size (fun _=>True) sv (encS E s)/\Below w.heap.size w w':=by
 have HTT:=As.mk HT
 have HC:=As.mk (below_any hG HT s hs)
 clear HT hG hs
 go_enter Tryz.func130,Tryz.ntmps130
 go_wp2_with (first
  | (go_at_call 121;refine(len_of HTT.out).mono ?_;rintro e w1 ⟨rfl,rfl⟩)
  | (go_at_call 163;refine HC.out.mono ?_;rintro e w3 ⟨sv,rfl,ho,hb⟩;have HO3:=As.mk ho;have HB3:=As.mk hb;clear ho hb))
 go_ret
 exact⟨_,rfl,HO3.out,HB3.out⟩
end Go.Proofs.YtkffhgiiejbnaaaGreat.Ch
