import Derived.Test.YtkffhgiiejbnaaaGreatQTokE
set_option maxRecDepth 100000
set_option maxHeartbeats 2000000
set_option linter.unusedVariables false
set_option linter.unusedSimpArgs false
namespace Go.Proofs.YtkffhgiiejbnaaaGreat.Tk
open Go.RowKit YtkffhgiiejbnaaaGreatW.PrintWords YtkffhgiiejbnaaaGreatW.PrintLast YtkffhgiiejbnaaaGreatW.PrintMore Rf Aid Mp Hp
theorem add_any {w:World} {base p bm pm:Nat} {E:List Ent} (h:TabOwn w base p bm pm E) (a b:Int) (hbase:base≤w.heap.size) :
  Calls Tryz.prog 170 #[.pointer (some ⟨p,0,none⟩),.agg #[.int .i64 a,.int .i64 b]] w fun e w'=>e=.returned (.tuple #[.int .i64 (if addC E a b=0 then (E.length:Int) else 0),.int .i64 (addC E a b)])/\TabOwn w' base p bm pm (if addC E a b=0 then E++[newE E a b] else E)/\Below base w w':=by
 by_cases hc:hasE E a=true/\hasE E b=true
 ·exact add_all h a b (of_decide_eq_true hc.1) (of_decide_eq_true hc.2) hbase
 ·have e4:addC E a b=4:=by unfold addC;rw[if_neg hc]
  refine(add_has h a b hc).mono ?_
  rintro e w' ⟨rfl,hb⟩
  rw[e4]
  exact⟨rfl,h.below hb,hb.mono hbase⟩
def mp (l:List S91):List (Int × Int):=l.map (fun m=>(m.f0,m.f1))
def TabV (w:World) (base:Nat) (v:Value):Option (List Ent)->Prop
 | none=>v=.pointer none
 | some E=>∃ p bm pm,v=.pointer (some ⟨p,0,none⟩)/\TabOwn w base p bm pm E
theorem TabOwn.lower {w:World} {base base' p bm pm:Nat} {E:List Ent} (h:TabOwn w base p bm pm E) (hb:base'≤base):TabOwn w base' p bm pm E:=by
 obtain⟨hg,A,c,lg,h1,h2,hr⟩:=h
 exact⟨hg,A,c,lg,h1,h2,⟨Nat.le_trans hb hr.lp,Nat.le_trans hb hr.lb,Nat.le_trans hb hr.lm,hr.ne,hr.blk,Kd.R_lower hr.rows hb,hr.bytes,hr.pairs⟩⟩
theorem TabOwn.far {w:World} {base p bm pm:Nat} {E:List Ent} (h:TabOwn w base p bm pm E) {a:Addr} (ha:a.block<base) (u:Value):TabOwn (w.setCell a u) base p bm pm E:=by
 obtain⟨hg,A,c,lg,h1,h2,hr⟩:=h
 exact⟨hg,A,c,lg,h1,h2,⟨hr.lp,hr.lb,hr.lm,hr.ne,blk_far hr.blk (by have:=hr.lp;omega) u,Kd.R_mono (Kd.R_far (Kd.R_bound hr.rows) (fun k hk=>by have:=hk.2.1;omega) u) (fun _ _=>trivial),hr.bytes.of_block (Below.heap_setCell w a u bm (by have:=hr.lb;omega)),hr.pairs.of_block (Below.heap_setCell w a u pm (by have:=hr.lm;omega))⟩⟩
theorem newT_at {l:List S91} {E:List Ent} {i:Nat} (hlt:i<l.length):newT E (mp (l.drop i)) i=if addC E (rd_T91 l i).f0 (rd_T91 l i).f1=0 then newT (E++[newE E (rd_T91 l i).f0 (rd_T91 l i).f1]) (mp (l.drop (i+1))) (i+1) else (E,i,addC E (rd_T91 l i).f0 (rd_T91 l i).f1):=by
 have hd:l.drop i=rd_T91 l i::l.drop (i+1):=by
  rw[List.drop_eq_getElem_cons hlt];unfold rd_T91;rw[Int.toNat_natCast,List.getD_eq_getElem?_getD,List.getElem?_eq_getElem hlt];rfl
 rw[hd]
 rfl
theorem new_any (A:Option Addr) (c:Nat) (l:List S91) (w:World) (hr:Kd.C k91 w A l.length l) (hl:l.length≤9223372036854775807) :
  Calls Tryz.prog 151 #[.slice A l.length c] w fun e w'=>∃ v,e=.returned (.tuple #[v,.int .i64 (newT (byteL 256) (mp l) 0).2.1,.int .i64 (newT (byteL 256) (mp l) 0).2.2])/\TabV w' w.heap.size v (if (newT (byteL 256) (mp l) 0).2.2=0 then some (newT (byteL 256) (mp l) 0).1 else none)/\Below w.heap.size w w':=by
 have HR:=As.mk hr
 clear hr
 obtain⟨R,hR⟩:∃ R,newT (byteL 256) (mp l) 0=R:=⟨_,rfl⟩
 have HR0:=As.mk (show newT (byteL 256) (mp (l.drop 0)) 0=R from hR)
 rw[hR]
 clear hR
 obtain⟨OV,hOV⟩:∃ OV,OV=if R.2.2=0 then some R.1 else none:=⟨_,rfl⟩
 rw[←hOV]
 have HV:=As.mk hOV
 clear hOV
 go_enter Tryz.func151,Tryz.ntmps151
 go_wp2_with (go_at_call 171;refine(begin_any _).mono ?_;rintro e w1 ⟨rfl,⟨v0,hr0⟩,hb0⟩;have HB0:=As.mk hb0;have HO0:As (TabOwn w1 w.heap.size (w.heap.size+2) w.heap.size (w.heap.size+1) (byteL 256)):=As.mk ⟨Good.begin_,by obtain⟨A9,c9,e9⟩:=Kd.R_slice hr0.rows;rw[e9]at hr0;exact⟨A9,c9,1,Z31,Z31,by rw[List.drop_eq_nil_of_le (Nat.le_of_eq (byteL_len 256))];exact hr0⟩⟩;clear hr0 hb0)
 go_loopg [13] l.length (fun k v w'=>∃ (i:Nat) (E:List Ent),v=.int .i64 i/\i≤l.length/\As (TabOwn w' w.heap.size (w.heap.size+2) w.heap.size (w.heap.size+1) E)/\As (newT E (mp (l.drop i)) i=R)/\As (l.length-i≤k)/\As (Below w.heap.size w w'))
 case atStart=>exact⟨0,byteL 256,rfl,Nat.zero_le _,HO0,HR0,⟨Z1⟩,HB0⟩
 case round =>
  clear HO0 HB0 HR0
  obtain⟨i,E,rfl,hi,HO,HF,HK,HB⟩:=hrel
  by_cases hlt:i<l.length
  ·obtain⟨k1,rfl⟩:∃ k1,gk=k1+1:=⟨gk-1,Z65⟩
   obtain⟨ad,rfl,x0,x1⟩:=at_T91 (Kd.C_below HR.out HB.out) (i:Int) (Z1) (Z1)
   have hltI:(i:Int)<l.length:=Z1
   have HF':=As.mk ((newT_at hlt).symm.trans HF.out)
   clear HF
   rw[Int.toNat_natCast]at x0 x1
   generalize rd_T91 l i=x at *
   by_cases he:addC E x.f0 x.f1=0
   ·have HA:=As.mk ((if_pos he).symm.trans HF'.out)
    have HE:=As.mk he
    clear HF' he
    go_wp2_with (go_at_call 170;refine(add_any (HO.out.below (below_alloc (Below.refl _ _) _)) x.f0 x.f1 (Z73)).mono ?_;rw[if_pos HE.out,if_pos HE.out,HE.out];rintro e w1 ⟨rfl,ho,hb⟩;have HO1:=As.mk ho;have HB1:=As.mk ((below_alloc HB.out _).trans hb);clear ho hb HO HB)
    go_roundg k1
    case measure=>omega
    case rel=>exact⟨i+1,_,Z67,Z1,HO1,HA,⟨Z65⟩,HB1⟩
   ·have hA:=(if_neg he).symm.trans HF'.out
    subst hA
    have HE:=As.mk he
    have he0:(addC E x.f0 x.f1==0)=false:=Z74
    have he1:(addC E x.f0 x.f1 != 0)=true:=Z74
    clear HF'
    go_wp2_with (go_at_call 170;refine(add_any (HO.out.below (below_alloc (Below.refl _ _) _)) x.f0 x.f1 (Z73)).mono ?_;rw[if_neg HE.out,if_neg HE.out];rintro e w1 ⟨rfl,ho,hb⟩;have HB1:=As.mk ((below_alloc HB.out _).trans hb);clear hb ho HO HB)
    go_ret3
    refine⟨_,rfl,?_,HB1.out⟩
    rw[HV.out,if_neg HE.out]
    rfl
  ·obtain rfl:i=l.length:=by omega
   have hA:=HF.out
   rw[List.drop_length]at hA
   have hA':(E,l.length,(0:Int))=R:=hA
   subst hA'
   go_wp2
   go_ret3
   refine⟨_,rfl,?_,HB.out⟩
   first|rw[HV.out,if_pos rfl]|rw[HV.out,if_pos trivial]
   exact⟨_,_,_,rfl,HO.out⟩
end Go.Proofs.YtkffhgiiejbnaaaGreat.Tk
