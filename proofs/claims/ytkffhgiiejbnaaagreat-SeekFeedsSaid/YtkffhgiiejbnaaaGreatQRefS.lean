import Derived.Test.YtkffhgiiejbnaaaGreatQRefB
import Derived.Test.YtkffhgiiejbnaaaGreatQ01
import Derived.Test.YtkffhgiiejbnaaaGreatQSpecA
import Derived.Test.YtkffhgiiejbnaaaGreatQChk
import Derived.Test.YtkffhgiiejbnaaaGreatQVocA
set_option maxRecDepth 100000
set_option maxHeartbeats 2000000
set_option linter.unusedVariables false
set_option linter.unusedSimpArgs false
set_option linter.unnecessarySimpa false
namespace Go.Proofs.YtkffhgiiejbnaaaGreat.Rt
open Go.RowKit YtkffhgiiejbnaaaGreatW.PrintWords YtkffhgiiejbnaaaGreatW.PrintLast YtkffhgiiejbnaaaGreatW.PrintMore Rf Aid Mp Hp Tk
theorem bL_byteL:∀ (d k i:Nat),256-i=d->d<k->i≤256->ligatureref04_Begin.l0 k (i:Int) (bL (byteL i))=some (bL (byteL 256),[])
 | 0,k,i,h0,h1,h2=>by
  obtain⟨k,rfl⟩:∃ m,k=m+1:=⟨k-1,Z1⟩
  obtain rfl:i=256:=Z1
  simp only[ligatureref04_Begin.l0]
  rw[if_neg (Z31)]
 | d+1,k,i,h0,h1,h2=>by
  obtain⟨k,rfl⟩:∃ m,k=m+1:=⟨k-1,Z1⟩
  simp only[ligatureref04_Begin.l0]
  rw[if_pos (Z1),if_pos (by rw[bL_len,byteL_len];omega),w64 (Z1) (Z1),show ((i:Int)+1)=((i+1:Nat):Int) from Z1]
  rw[show bL (byteL i)++[strOfNums ([((i:Int)) % 256]:List Int)]=bL (byteL (i+1)) from by
   rw[byteL_succ,bL_snoc];congr 1;congr 1;simp only[strOfNums,byteE,List.map_cons,List.map_nil];congr 1;rw[show ((i:Int) % 256).toNat=i from Z1]]
  exact bL_byteL d k (i+1) (Z1) (Z1) (Z1)
theorem begin_ref (w:World):Calls Tryz.prog 124 #[] w fun e w'=>∃ A B c d,e=.returned (rV A B c d (byteL 256))/\ROwn w' w.heap.size A B c d (byteL 256)/\Below w.heap.size w w':=by
 refine(ligatureref04_Begin.calls 257 (bL (byteL 256)) [] w (bL_byteL 256 257 0 (Z1) (Z1) (Z1))).mono ?_
 rintro e w' ⟨v0,v1,rfl,h0,h1,hb⟩
 obtain⟨A,c,rfl⟩:=Kd.R_slice h0
 obtain⟨B,d,rfl⟩:=Kd.R_slice h1
 have hm:mL (byteL 256)=[]:=by unfold mL;rw[List.drop_eq_nil_of_le (by rw[byteL_len];omega)];rfl
 exact⟨A,B,c,d,by unfold rV;rw[hm],⟨h0,by rw[hm];exact h1⟩,hb⟩
def toI (E:List Ent) (x:Int):Int:=if x % ((E.length:Int)+((E.length:Int)-256))<E.length then x % ((E.length:Int)+((E.length:Int)-256)) else 256+x % ((E.length:Int)+((E.length:Int)-256))-E.length
def growL:List Int->List Ent->List Ent
 | x::y::l,E=>growL l (more E (toI E x) (toI E y))
 | _,E=>E
theorem more_good {E:List Ent} (h:Tk.Good E) (a b:Int):Tk.Good (more E a b):=by
 unfold more
 split
 ·rename_i hc;exact h.add hc
 ·exact h
theorem grow_any (A:Option Addr) (c:Nat) (l:List Int) (w:World) (hr:Kd.C (Kd.int .u16) w A l.length l) (hx:∀ x∈l,0≤x/\x≤65535) :
  Calls Tryz.prog 87 #[.slice A l.length c] w fun e w'=>∃ A2 B2 c2 d2,e=.returned (rV A2 B2 c2 d2 (growL (l.take 60) (byteL 256)))/\ROwn w' w.heap.size A2 B2 c2 d2 (growL (l.take 60) (byteL 256))/\Tk.Good (growL (l.take 60) (byteL 256))/\Below w.heap.size w w':=by
 have HR:=As.mk hr
 have HX:=As.mk hx
 have HLL:=As.mk hr.2.1
 clear hr hx
 obtain⟨R,hR⟩:∃ R,growL (l.take 60) (byteL 256)=R:=⟨_,rfl⟩
 have HF0:=As.mk (show growL ((l.take 60).drop 0) (byteL 256)=R from hR)
 rw[hR]
 clear hR
 have hz:∀ w,(zeroValue 34).run Tryz.prog w=.ok (.agg #[.slice none 0 0,.slice none 0 0]) w:=fun w=>Z15
 go_enter Tryz.func87,Tryz.ntmps87
 go_wp2_with (go_at_call 124;refine(begin_ref _).mono ?_;rintro e w1 ⟨A1,B1,c1,d1,rfl,ho,hb⟩;have HO1:=As.mk ho;have HB1:=As.mk (bt_ (below_alloc (Below.refl _ _) _) hb);have HY1:=As.mk ((hb.block _ (blk_lt (Go.MapKept.heap_alloc w _).1)).trans (Go.MapKept.heap_alloc w (.cells #[.slice none 0 0,.slice none 0 0] 34)).1);clear ho hb;unfold rV)
 have HO2:=As.mk ((HO1.out.below (below_alloc (Below.refl _ _) (.cells #[.slice A1 (bL (byteL 256)).length c1,.slice B1 (mL (byteL 256)).length d1] 34))).lower (by simp:w.heap.size≤_))
 have HB2:=As.mk (below_alloc HB1.out (.cells #[.slice A1 (bL (byteL 256)).length c1,.slice B1 (mL (byteL 256)).length d1] 34))
 have HK1:=As.mk (Go.MapKept.heap_alloc w1 (.cells #[.slice A1 (bL (byteL 256)).length c1,.slice B1 (mL (byteL 256)).length d1] 34)).1
 have HLO:=As.mk HB1.out.size
 have HNE:=As.mk (Nat.ne_of_lt (blk_lt HY1.out))
 have HY2:=As.mk (((below_alloc (Below.refl w1.heap.size w1) (.cells #[.slice A1 (bL (byteL 256)).length c1,.slice B1 (mL (byteL 256)).length d1] 34)).block _ (blk_lt HY1.out)).trans HY1.out)
 clear HO1
 go_loopg [4] 30 (fun k v4 w'=>∃ (i:Nat) (E:List Ent) (A2 B2:Option Addr) (c2 d2:Nat),v4=.int .i64 i/\i≤60/\As (w'.heap[w1.heap.size]?=some (.cells #[.slice A2 (bL E).length c2,.slice B2 (mL E).length d2] 34 (0,0)))/\As (ROwn w' w.heap.size A2 B2 c2 d2 E)/\As (w'.heap[w.heap.size]?=some (.cells #[.slice none 0 0,.slice none 0 0] 34 (0,0)))/\As (Tk.Good E)/\As (growL ((l.take 60).drop i) E=R)/\As (60≤i+2 * k/\i % 2=0)/\As (Below w.heap.size w w'))
 case atStart=>exact⟨0,byteL 256,A1,B1,c1,d1,rfl,Z1,HK1,HO2,HY2,⟨Good.begin_⟩,HF0,⟨Z1,rfl⟩,HB2⟩
 case round =>
  clear HF0 HO2 HB2 HK1 HY2 HY1
  obtain⟨i,E,A2,B2,c2,d2,rfl,hi,HK,HO,HY,HG,HF,HM,HB⟩:=hrel
  by_cases hlt:i+1<l.length/\i<60
  ·obtain⟨k1,rfl⟩:∃ k1,gk=k1+1:=⟨gk-1,Z104⟩
   have hltI:(i:Int)+1<l.length:=Z1
   have hlt6:(i:Int)<60:=Z1
   have hi1:i<l.length:=Z1
   have hi2:i+1<l.length:=hlt.1
   have hpar:=HM.out.2
   obtain⟨ad,rfl,x0⟩:=Kd.at_int (Kd.C_below HR.out HB.out) (i:Int) (Z1) (Z1)
   obtain⟨ad',e',y0⟩:=Kd.at_int (Kd.C_below HR.out HB.out) ((i:Int)+1) (Z1) (Z1)
   injection e' with e'
   subst e'
   rw[show (i:Int)+1=((i+1:Nat):Int) from Z1,Int.toNat_natCast,rdI hi2]at y0
   rw[Int.toNat_natCast,rdI hi1]at x0
   have hX:=HX.out _ (List.getElem_mem hi1)
   have hY:=HX.out _ (List.getElem_mem hi2)
   have HF':=As.mk (show growL (l[i]::l[i+1]::(l.take 60).drop (i+2)) E=R from by
    have e1:(l.take 60).drop i=l[i]::l[i+1]::(l.take 60).drop (i+2):=by
     have h1:i<(l.take 60).length:=Z8
     have h2:i+1<(l.take 60).length:=Z8
     rw[List.drop_eq_getElem_cons h1,List.drop_eq_getElem_cons h2,List.getElem_take,List.getElem_take]
    rw[←e1];exact HF.out)
   clear HF
   generalize l[i]=x at *
   generalize l[i+1]=y at *
   have hE:=HG.out.many
   have hml:(mL E).length=E.length-256:=Z105
   have hbl:=bL_len E
   obtain⟨N,hN⟩:∃ N:Int,N=((bL E).length:Int)+((mL E).length:Int):=⟨_,rfl⟩
   have hN1:IntKind.i64.wrap (((bL E).length:Int)+((mL E).length:Int))=N:=by rw[hN];exact IntWalk.i64_in _ (by rw[hbl,hml];omega)
   have hNp:0<N:=by rw[hN,hbl,hml];omega
   have hN0:N≠0:=Z1
   have hNB:N≤2000:=by rw[hN,hbl,hml];omega
   have hxN:x.tmod N=x % N:=Int.tmod_eq_emod_of_nonneg hX.1
   have hyN:y.tmod N=y % N:=Int.tmod_eq_emod_of_nonneg hY.1
   have hx1:=Int.emod_nonneg x hN0
   have hy1:=Int.emod_nonneg y hN0
   have hx2:=Int.emod_lt_of_pos x hNp
   have hy2:=Int.emod_lt_of_pos y hNp
   have HT:=As.mk (show growL ((l.take 60).drop (i+2)) (more E (if x % N<(bL E).length then x % N else 256+x % N-(bL E).length) (if y % N<(bL E).length then y % N else 256+y % N-(bL E).length))=R from by
    have h:=HF'.out
    have e1:((E.length:Int)+((E.length:Int)-256))=N:=by rw[hN,hbl,hml];omega
    unfold growL toI at h
    rw[e1]at h
    rw[hbl]
    exact h)
   have d0:=cell_of (i:=0) HK.out rfl
   have d1:=cell_of (i:=1) HK.out rfl
   have HNN:=As.mk hN
   clear HF' hN hml
   generalize x % N=xn at *
   generalize y % N=yn at *
   have hLb:((bL E).length:Int)≤1000:=by rw[hbl];omega
   have hLm:((mL E).length:Int)≤1000:=by have:=mL_le E;omega
   have HBL:=As.mk hbl
   clear hbl hE
   have HLA:=As.mk HLL.out
   have hii:IntKind.i64.wrap ((i:Int)+1)=(i:Int)+1:=IntWalk.i64_in _ (Z1)
   have hij:0≤(i:Int)+1:=Z1
   have hik:((i:Int)+1).toNat=i+1:=Z1
   have hxw:IntKind.i64.wrap x=x:=IntWalk.i64_in _ (Z1)
   have hyw:IntKind.i64.wrap y=y:=IntWalk.i64_in _ (Z1)
   have y1:wr.cell? ⟨ad.block,ad.off+(i+1),none⟩=some (.int .u16 y):=y0
   go_wp2_with fail
   go_quiet (fail)
   have hq:=pw_below_drewN (Below.refl wr.heap.size wr) nq
   have HK2:=As.mk ((hq.block _ (blk_lt HK.out)).trans HK.out)
   have HO2:=As.mk (HO.out.below hq)
   have HY2:=As.mk ((hq.block _ (blk_lt HY.out)).trans HY.out)
   have HB2:=As.mk (bt_ HB.out hq)
   clear hq HK HO HY HB d0 d1 x0 y0 y1
   generalize wr.drewN nq=w3 at HK2 HO2 HY2 HB2 ⊢
   have d0:=cell_of (i:=0) HK2.out rfl
   have d1:=cell_of (i:=1) HK2.out rfl
   clear hxN hyN hN1 hii hij hik hxw hyw HX HR hX hY
   obtain⟨a,ha⟩:∃ a,a=if xn<((bL E).length:Int) then xn else 256+xn-((bL E).length:Int):=⟨_,rfl⟩
   obtain⟨b,hb⟩:∃ b,b=if yn<((bL E).length:Int) then yn else 256+yn-((bL E).length:Int):=⟨_,rfl⟩
   rw[←ha,←hb]at HT
   have HA:=As.mk (fun(W:World) (h:Below w3.heap.size w3 W)=>radd_any (HO2.out.below h) HG.out (Nat.le_trans HB2.out.size h.size) a b)
   obtain⟨E2,hE2⟩:∃ E2,E2=more E a b:=⟨_,rfl⟩
   rw[←hE2]at HT HA
   have HG2:=As.mk (show Tk.Good E2 from hE2 ▸ more_good HG.out a b)
   have hE2':addC E a b≠0->E2=E:=fun h=>by rw[hE2];unfold more;rw[if_neg h]
   have HE2:=As.mk hE2'
   clear hE2 hE2'
   obtain⟨q,hq⟩:∃ q,q=addC E a b:=⟨_,rfl⟩
   rw[←hq]at HA HE2
   clear hq
   have hqq:q=0\/q≠0:=Z1
   unfold rV at HA
   by_cases hca:xn<((bL E).length:Int) <;> by_cases hcb:yn<((bL E).length:Int)
   all_goals first|rw[if_pos hca]at ha|rw[if_neg hca]at ha
   all_goals first|rw[if_pos hcb]at hb|rw[if_neg hcb]at hb
   all_goals subst ha
   all_goals subst hb
   all_goals rcases hqq with rfl|hqq
   all_goals try have hq0:(q==0)=false:=by simpa using hqq
   all_goals try have HQQ:=As.mk hqq
   all_goals try clear hqq
   all_goals
    go_wp2_with (go_at_call 125;refine(HA.out _ (Below.refl _ _)).mono ?_;rintro e w4 ⟨A4,B4,c4,d4,rfl,ho,hb⟩;have HO4:=As.mk ho;have HK4:=As.mk ((hb.block _ (blk_lt HK2.out)).trans HK2.out);have HY4:=As.mk ((hb.block _ (blk_lt HY2.out)).trans HY2.out);have HB4:=As.mk (bt_ HB2.out hb);have HO5:=As.mk (HO2.out.below hb);clear ho hb HK2 HO2 HY2 HB2 HA d0 d1;have hba:=below_alloc (Below.refl w4.heap.size w4) (.cells #[.slice A4 (bL E2).length c4,.slice B4 (mL E2).length d4] 34);have HK5:=As.mk ((hba.block _ (blk_lt HK4.out)).trans HK4.out);have HY5:=As.mk ((hba.block _ (blk_lt HY4.out)).trans HY4.out);have HO6:=As.mk (HO4.out.below hba);have HO7:=As.mk (HO5.out.below hba);have HB5:=As.mk (bt_ HB4.out hba);clear hba HO4 HO5 HB4 HY4 HK4;have d0:=cell_of (i:=0) HK5.out rfl;have d1:=cell_of (i:=1) HK5.out rfl;have z0:=frozen_of HK5.out 0;have z1:=frozen_of HK5.out 1)
    go_roundg k1
   all_goals first
    | (show _<_;omega)
    | exact⟨i+2,E2,A4,B4,c4,d4,Z67,Z1,⟨blk_set (blk_set HK5.out 0 _) 1 _⟩,⟨(HO6.out.set HK5.out 0 _).set (blk_set HK5.out 0 _) 1 _⟩,⟨blk_far (blk_far HY5.out (p:=⟨w1.heap.size,0,none⟩) HNE.out _) (p:=⟨w1.heap.size,1,none⟩) HNE.out _⟩,HG2,HT,⟨Z104,Z104⟩,⟨(HB5.out.setCell (p:=⟨w1.heap.size,0,none⟩) HLO.out _).setCell (p:=⟨w1.heap.size,1,none⟩) HLO.out _⟩⟩
    | exact⟨i+2,E,A2,B2,c2,d2,Z67,Z1,HK5,HO7,HY5,HG,⟨by have h:=HT.out;rw[HE2.out HQQ.out]at h;exact h⟩,⟨Z104,Z104⟩,HB5⟩
  ·have hlen:((l.take 60).drop i).length≤1:=by
    rw[List.length_drop,List.length_take]
    omega
   have hR:E=R:=by
    have h:=HF.out
    match hq:(l.take 60).drop i,hlen with
    | [],_=>rw[hq]at h;exact h
    | [x],_=>rw[hq]at h;exact h
   subst hR
   have HN:=As.mk hlt
   have hcase:¬ ((i:Int)+1<l.length)\/((i:Int)+1<l.length/\¬ ((i:Int)<60)):=Z1
   have d0:=cell_of (i:=0) HK.out rfl
   have d1:=cell_of (i:=1) HK.out rfl
   have f0:=cell_of (i:=0) HY.out rfl
   have f1:=cell_of (i:=1) HY.out rfl
   have z0:=frozen_of HY.out 0
   have z1:=frozen_of HY.out 1
   have hli:(l.length:Int)≤9223372036854775807:=by have:=HLL.out;omega
   clear hlt hlen HF HX HR
   rcases hcase with hc1|⟨hc1,hc2⟩
   all_goals
    go_wp2
    refine bodyPost_ret (v:=.agg #[.slice A2 (bL E).length c2,.slice B2 (mL E).length d2]) ?_ rfl ⟨A2,B2,c2,d2,rfl,?_,HG.out,?_⟩
    ·simp only[results,show Tryz.f87.results=#[.cell 2 34] from rfl]
     first|(go_simp;done)|(go_simp;rfl)
    ·exact(HO.out.set HY.out 0 _).set (blk_set HY.out 0 _) 1 _
    ·exact(HB.out.setCell (p:=⟨w.heap.size,0,none⟩) (Nat.le_refl _) _).setCell (p:=⟨w.heap.size,1,none⟩) (Nat.le_refl _) _
end Go.Proofs.YtkffhgiiejbnaaaGreat.Rt
namespace Go.Proofs.YtkffhgiiejbnaaaGreat.Rt
open Go.RowKit YtkffhgiiejbnaaaGreatW.PrintWords YtkffhgiiejbnaaaGreatW.PrintLast YtkffhgiiejbnaaaGreatW.PrintMore Rf Aid Mp Hp Tk
theorem rnew_ok (A:Option Addr) (c:Nat) (l:List S91) (w:World) (hr:Kd.C k91 w A l.length l) (hl:l.length≤1000000) {R:List Ent} (hok:newT (byteL 256) (mp l) 0=(R,l.length,0)) :
  Calls Tryz.prog 162 #[.slice A l.length c] w fun e w'=>∃ A2 B2 c2 d2,e=.returned (.tuple #[rV A2 B2 c2 d2 R,.int .i64 (l.length:Int),.int .i64 0])/\ROwn w' w.heap.size A2 B2 c2 d2 R/\Below w.heap.size w w':=by
 have HR:=As.mk hr
 have HF0:=As.mk (show newT (byteL 256) (mp (l.drop 0)) 0=(R,l.length,0) from hok)
 clear hr hok
 have hz:∀ w,(zeroValue 34).run Tryz.prog w=.ok (.agg #[.slice none 0 0,.slice none 0 0]) w:=fun w=>Z15
 go_enter Tryz.func162,Tryz.ntmps162
 go_wp2_with (go_at_call 124;refine(begin_ref _).mono ?_;rintro e w1 ⟨A1,B1,c1,d1,rfl,ho,hb⟩;have HO1:=As.mk ho;have HB1:=As.mk (bt_ (below_alloc (Below.refl _ _) _) hb);have HY1:=As.mk ((hb.block _ (blk_lt (Go.MapKept.heap_alloc w _).1)).trans (Go.MapKept.heap_alloc w (.cells #[.slice none 0 0,.slice none 0 0] 34)).1);clear ho hb;unfold rV)
 have HO2:=As.mk ((HO1.out.below (below_alloc (Below.refl _ _) (.cells #[.slice A1 (bL (byteL 256)).length c1,.slice B1 (mL (byteL 256)).length d1] 34))).lower (by simp:w.heap.size≤_))
 have HB2:=As.mk (below_alloc HB1.out (.cells #[.slice A1 (bL (byteL 256)).length c1,.slice B1 (mL (byteL 256)).length d1] 34))
 have HK1:=As.mk (Go.MapKept.heap_alloc w1 (.cells #[.slice A1 (bL (byteL 256)).length c1,.slice B1 (mL (byteL 256)).length d1] 34)).1
 have HLO:=As.mk HB1.out.size
 have HNE:=As.mk (Nat.ne_of_lt (blk_lt HY1.out))
 have HY2:=As.mk (((below_alloc (Below.refl w1.heap.size w1) (.cells #[.slice A1 (bL (byteL 256)).length c1,.slice B1 (mL (byteL 256)).length d1] 34)).block _ (blk_lt HY1.out)).trans HY1.out)
 clear HO1 HY1
 go_loopg [6] l.length (fun k v6 w'=>∃ (i:Nat) (E:List Ent) (A2 B2:Option Addr) (c2 d2:Nat),v6=.int .i64 i/\i≤l.length/\As (w'.heap[w1.heap.size]?=some (.cells #[.slice A2 (bL E).length c2,.slice B2 (mL E).length d2] 34 (0,0)))/\As (ROwn w' w.heap.size A2 B2 c2 d2 E)/\As (w'.heap[w.heap.size]?=some (.cells #[.slice none 0 0,.slice none 0 0] 34 (0,0)))/\As (Tk.Good E)/\As (newT E (mp (l.drop i)) i=(R,l.length,0))/\As (l.length-i≤k)/\As (Below w.heap.size w w'))
 case atStart=>exact⟨0,byteL 256,A1,B1,c1,d1,rfl,Z1,HK1,HO2,HY2,⟨Good.begin_⟩,HF0,⟨Z1⟩,HB2⟩
 case round =>
  clear HF0 HO2 HB2 HK1 HY2
  obtain⟨i,E,A2,B2,c2,d2,rfl,hi,HK,HO,HY,HG,HF,HM,HB⟩:=hrel
  by_cases hlt:i<l.length
  ·obtain⟨k1,rfl⟩:∃ k1,gk=k1+1:=⟨gk-1,Z104⟩
   have hltI:(i:Int)<l.length:=Z1
   have hF':=(newT_at hlt).symm.trans HF.out
   obtain⟨ad,rfl,x0,x1⟩:=at_T91 (Kd.C_below HR.out HB.out) (i:Int) (Z1) (Z1)
   rw[Int.toNat_natCast]at x0 x1
   generalize rd_T91 l i=x at *
   have hc0:addC E x.f0 x.f1=0:=by
    by_cases hc0:addC E x.f0 x.f1=0
    ·exact hc0
    ·rw[if_neg hc0]at hF'
     exact congrArg (fun q:List Ent × Nat × Int=>q.2.2) hF'
   rw[if_pos hc0]at hF'
   have HF':=As.mk hF'
   have HA:=As.mk (fun(W:World) (h:Below wr.heap.size wr W)=>radd_any (HO.out.below h) HG.out (Nat.le_trans HB.out.size h.size) x.f0 x.f1)
   have hm:more E x.f0 x.f1=E++[newE E x.f0 x.f1]:=by unfold more;rw[if_pos hc0]
   rw[hc0,hm]at HA
   have HG2:=As.mk (hm ▸ more_good HG.out x.f0 x.f1:Tk.Good (E++[newE E x.f0 x.f1]))
   clear hF' hc0 hm HF
   generalize E++[newE E x.f0 x.f1]=E2 at HF' HA HG2
   unfold rV at HA
   have d0:=cell_of (i:=0) HK.out rfl
   have d1:=cell_of (i:=1) HK.out rfl
   go_wp2_with fail
   refine start_ (n:=12) (S:=fun w'=>Below wr.heap.size wr w') (ds:=[]) #[false,false,false,false,false,false,false,false,false,false,false,false] (Z15) rfl rfl (below_drew1 (Below.refl _ _)) (fun hHeld=>?_)
   refine pI 1 (some 18) (bs 12 2) ?_
   refine pI 2 (some 19) (bs 12 6) ?_
   refine pI 3 (some 20) (bs 12 14) ?_
   refine tI 0 (some 17) (bs 12 15) rfl (by intro w' hS';have s0:=hS';have d0':=pw_cell_below hS' d0;have d1':=pw_cell_below hS' d1;go_simp;with_reducible rfl) hHeld ?_
   refine tI 4 (some 21) (bs 12 31) rfl (by intro w' hS';have s0:=hS';have x0':=pw_cell_below hS' x0;have x1':=pw_cell_below hS' x1;go_simp;with_reducible rfl) hHeld ?_
   have HS5:=As.mk hHeld
   clear hHeld
   generalize wr.drew=w5 at HS5 ⊢
   refine join_ 2 #[true,true,true,true,true,true,true,true,true,true,false,false] (fun(q:Option Addr × Option Addr × Nat × Nat × Nat)=>[(22,.tuple #[.agg #[.slice q.1 (bL E2).length q.2.2.1,.slice q.2.1 (mL E2).length q.2.2.2.1],.int .i64 0]),(16,.tuple #[.agg #[.slice q.1 (bL E2).length q.2.2.1,.slice q.2.1 (mL E2).length q.2.2.2.1],.int .i64 0]),(23,.agg #[.slice q.1 (bL E2).length q.2.2.1,.slice q.2.1 (mL E2).length q.2.2.2.1]),(24,.int .i64 0),(7,.pointer (some ⟨q.2.2.2.2,0,none⟩))])
    (fun q W=>Below wr.heap.size wr W/\ROwn W w.heap.size q.1 q.2.1 q.2.2.1 q.2.2.2.1 E2/\W.heap[q.2.2.2.2]?=some (.cells #[.slice none 0 0,.slice none 0 0] 34 (0,0))/\wr.heap.size≤q.2.2.2.2) ?_ ?_
   rotate_left
   ·intro hcont
    refine two_ (i:=5) (j:=9) (Ni:=some 22) (Nj:=some 7) #[true,true,true,true,true,true,false,false,false,false,false,false] #[true,true,true,true,true,false,false,false,false,true,false,false] rfl rfl rfl rfl (Z15) (Z31) (Z31) (fun K hK=>?_) (fun K hK=>?_)
    ·refine goes_ Tryz.func125 (Z15) rfl #[.agg #[.slice A2 (bL E).length c2,.slice B2 (mL E).length d2],.agg #[.int .i64 x.f0,.int .i64 x.f1]] (by rfl) rfl rfl (Z101) ?_
     refine(HA.out _ HS5.out).mono ?_
     rintro e w6 ⟨A4,B4,c4,d4,rfl,ho,hb⟩
     refine⟨_,rfl,?_⟩
     have hSw6:=bt_ HS5.out hb
     refine hK.out _ _ hSw6 (fun _=>?_)
     clear hK K
     refine nI ?_
     refine pI 6 (some 16) (bs 12 127) ?_
     refine pI 7 (some 23) (bs 12 255) ?_
     refine pI 8 (some 24) (bs 12 511) ?_
     refine one_ (i:=9) (N:=some 7) (bs 12 1023) rfl rfl (Z15) (Z31) (fun K hK=>?_)
     refine value_ (w1:=w6.alloc (.cells #[.slice none 0 0,.slice none 0 0] 34)) (v:=.pointer (some ⟨w6.heap.size,0,none⟩)) (by rfl) rfl ?_ ?_
     ·first|(go_simp;done)|(go_simp;rfl)
     have hSw7:=below_alloc hSw6 (.cells #[.slice none 0 0,.slice none 0 0] 34)
     have hGw7:=(Go.MapKept.heap_alloc w6 (.cells #[.slice none 0 0,.slice none 0 0] 34)).1
     have hq:=below_alloc (Below.refl w6.heap.size w6) (.cells #[.slice none 0 0,.slice none 0 0] 34)
     refine hK.out _ _ hSw7 (fun _=>?_)
     clear hK K
     refine nI ?_
     exact norm_ (Z106) (hcont ⟨A4,B4,c4,d4,w6.heap.size⟩ _ ⟨hSw7,ho.below hq,hGw7,hSw6.size⟩)
    ·refine value_ (w1:=w5.alloc (.cells #[.slice none 0 0,.slice none 0 0] 34)) (v:=.pointer (some ⟨w5.heap.size,0,none⟩)) (by rfl) rfl ?_ ?_
     ·first|(go_simp;done)|(go_simp;rfl)
     have hSw6:=below_alloc HS5.out (.cells #[.slice none 0 0,.slice none 0 0] 34)
     have hGw6:=(Go.MapKept.heap_alloc w5 (.cells #[.slice none 0 0,.slice none 0 0] 34)).1
     refine hK.out _ _ hSw6 (fun _=>?_)
     clear hK K
     refine nI ?_
     refine one_ (i:=5) (N:=some 22) (bs 12 575) rfl rfl (Z15) (Z31) (fun K hK=>?_)
     refine goes_ Tryz.func125 (Z15) rfl #[.agg #[.slice A2 (bL E).length c2,.slice B2 (mL E).length d2],.agg #[.int .i64 x.f0,.int .i64 x.f1]] (by rfl) rfl rfl (Z101) ?_
     refine(HA.out _ hSw6).mono ?_
     rintro e w7 ⟨A4,B4,c4,d4,rfl,ho,hb⟩
     refine⟨_,rfl,?_⟩
     have hSw7:=bt_ hSw6 hb
     have hG7:=(hb.block _ (blk_lt hGw6)).trans hGw6
     refine hK.out _ _ hSw7 (fun _=>?_)
     clear hK K
     refine nI ?_
     refine pI 6 (some 16) (bs 12 639) ?_
     refine pI 7 (some 23) (bs 12 767) ?_
     refine pI 8 (some 24) (bs 12 1023) ?_
     exact norm_ (Z106) (hcont ⟨A4,B4,c4,d4,w5.heap.size⟩ _ ⟨hSw7,ho,hG7,HS5.out.size⟩)
   ·rintro⟨A4,B4,c4,d4,g⟩ w8 ⟨hS8,hO8,hG8,hL8⟩
    simp only at hO8 hG8 hL8
    refine norm_ (a':=?_) ?_ ?_
    rotate_left
    ·(simp only[Act.put,putAll,List.setIfInBounds_toArray,List.set_cons_zero,List.set_cons_succ];rfl)
    have f0:=cell_of (i:=0) hG8 rfl
    have f1:=cell_of (i:=1) hG8 rfl
    have z0:=frozen_of hG8 0
    have z1:=frozen_of hG8 1
    refine one_ (i:=10) (N:=none) (bs 12 2047) rfl rfl (Z15) (Z31) (fun K hK=>?_)
    have hS9:=(hS8.setCell (p:=⟨g,0,none⟩) hL8 (.slice A4 (bL E2).length c4)).setCell (p:=⟨g,1,none⟩) hL8 (.slice B4 (mL E2).length d4)
    refine skip_ (w1:=(w8.setCell ⟨g,0,none⟩ (.slice A4 (bL E2).length c4)).setCell ⟨g,1,none⟩ (.slice B4 (mL E2).length d4)) (by rfl) rfl ?_ ?_
    ·first|(go_simp;done)|(go_simp;rfl)
    refine hK.out _ _ hS9 (fun _=>?_)
    clear hK K
    refine pI 11 (some 8) (bs 12 4095) ?_
    refine done_ (Z15) ?_
    have HS9:=As.mk hS9
    have HK9:=As.mk (((hS9.block _ (blk_lt HK.out)).trans HK.out))
    have HY9:=As.mk (((hS9.block _ (blk_lt HY.out)).trans HY.out))
    have HO9:=As.mk ((hO8.set hG8 0 (.slice A4 (bL E2).length c4)).set (blk_set hG8 0 _) 1 (.slice B4 (mL E2).length d4))
    have HG9:=As.mk (blk_set (blk_set hG8 0 (.slice A4 (bL E2).length c4)) 1 (.slice B4 (mL E2).length d4))
    have HB9:=As.mk (bt_ HB.out hS9)
    clear hS9 hS8 hO8 hG8 hL8 f0 f1 z0 z1 HK HY HO HB HA d0 d1
    generalize (w8.setCell ⟨g,0,none⟩ (.slice A4 (bL E2).length c4)).setCell ⟨g,1,none⟩ (.slice B4 (mL E2).length d4)=w9 at HS9 HK9 HY9 HO9 HG9 HB9 ⊢
    have d0:=cell_of (i:=0) HG9.out rfl
    have d1:=cell_of (i:=1) HG9.out rfl
    have z0:=frozen_of HK9.out 0
    have z1:=frozen_of HK9.out 1
    have f0:=cell_of (i:=0) HK9.out rfl
    have f1:=cell_of (i:=1) HK9.out rfl
    go_wp2
    go_roundg k1
    case measure=>omega
    case rel=>exact⟨i+1,E2,A4,B4,c4,d4,Z67,Z1,⟨blk_set (blk_set HK9.out 0 _) 1 _⟩,⟨(HO9.out.set HK9.out 0 _).set (blk_set HK9.out 0 _) 1 _⟩,⟨blk_far (blk_far HY9.out (p:=⟨w1.heap.size,0,none⟩) HNE.out _) (p:=⟨w1.heap.size,1,none⟩) HNE.out _⟩,HG2,HF',⟨Z104⟩,⟨(HB9.out.setCell (p:=⟨w1.heap.size,0,none⟩) HLO.out _).setCell (p:=⟨w1.heap.size,1,none⟩) HLO.out _⟩⟩
  ·obtain rfl:i=l.length:=by omega
   have hR:E=R:=by
    have h:=HF.out
    rw[List.drop_length]at h
    exact congrArg (fun q:List Ent × Nat × Int=>q.1) h
   subst hR
   have d0:=cell_of (i:=0) HK.out rfl
   have d1:=cell_of (i:=1) HK.out rfl
   have f0:=cell_of (i:=0) HY.out rfl
   have f1:=cell_of (i:=1) HY.out rfl
   have z0:=frozen_of HY.out 0
   have z1:=frozen_of HY.out 1
   clear HF
   go_wp2
   refine bodyPost_ret (v:=.tuple #[.agg #[.slice A2 (bL E).length c2,.slice B2 (mL E).length d2],.int .i64 (l.length:Int),.int .i64 0]) ?_ rfl ⟨A2,B2,c2,d2,rfl,?_,?_⟩
   ·simp only[results,show Tryz.f162.results=#[.cell 2 34,.tmp 3,.tmp 4] from rfl]
    first|(go_simp;done)|(go_simp;rfl)
   ·exact(HO.out.set HY.out 0 _).set (blk_set HY.out 0 _) 1 _
   ·exact(HB.out.setCell (p:=⟨w.heap.size,0,none⟩) (Nat.le_refl _) _).setCell (p:=⟨w.heap.size,1,none⟩) (Nat.le_refl _) _
end Go.Proofs.YtkffhgiiejbnaaaGreat.Rt
namespace Go.Proofs.YtkffhgiiejbnaaaGreat.Rt
open Go.RowKit YtkffhgiiejbnaaaGreatW.PrintWords YtkffhgiiejbnaaaGreatW.PrintLast YtkffhgiiejbnaaaGreatW.PrintMore Rf Aid Mp Hp Tk Vc
theorem newT_n:∀ (l:List (Int × Int)) (E:List Ent) (n:Nat),(newT E l n).2.2=0->(newT E l n).2.1=n+l.length
 | [],E,n,_=>rfl
 | m::l,E,n,h=>by
  unfold newT at h ⊢
  split at h
  ·rename_i hc
   rw[if_pos hc,newT_n l _ (n+1) h,List.length_cons];omega
  ·rename_i hc;exact absurd h hc
theorem tab_is {s:Vc.Sp} (h:(tabOf s).2.2=0):newT (byteL 256) (mp s.M) 0=((tabOf s).1,s.M.length,0):=by
 have h1:=newT_n _ _ _ h
 have h2:(mp s.M).length=s.M.length:=by simp[mp]
 rw[h2]at h1
 unfold tabOf at h ⊢
 generalize newT (byteL 256) (mp s.M) 0=q at *
 obtain⟨a,b,c⟩:=q
 simp only at *
 rw[h,h1];simp
theorem load_ref {A1 A3 A4 A5:Option Addr} (c1 c3 c4 c5:Nat) {s:Vc.Sp} {w:World} (hs:SpAt w A1 A3 A4 A5 s) (h:VOk s) :
  Calls Tryz.prog 126 #[spV A1 A3 A4 A5 c1 c3 c4 c5 s] w fun e w'=>∃ A2 B2 c2 d2,e=.returned (.tuple #[rV A2 B2 c2 d2 (tabOf s).1,.int .i64 (s.M.length:Int),.int .i64 0])/\ROwn w' w.heap.size A2 B2 c2 d2 (tabOf s).1/\Below w.heap.size w w':=by
 have ht:=tab_is h.tab
 have HM:=As.mk hs.M
 have hn:=h.sp.nM
 have HN:=As.mk (fun(W:World) (hb:Below w.heap.size w W)=>rnew_ok A1 c1 s.M W (Kd.C_below HM.out hb) (Z1) ht)
 have hz:∀ w,(zeroValue 34).run Tryz.prog w=.ok (.agg #[.slice none 0 0,.slice none 0 0]) w:=fun w=>Z15
 generalize (tabOf s).1=E at *
 unfold spV
 unfold rV at HN ⊢
 clear ht hs h
 go_enter Tryz.func126,Tryz.ntmps126
 have hb0:=below_alloc (below_alloc (Below.refl w.heap.size w) (.cells #[.bool false,.slice A1 s.M.length c1,.slice none 0 0,.slice A3 s.X.length c3,.slice A4 s.C.length c4,.slice A5 s.J.length c5] 95)) (.cells #[.slice none 0 0,.slice none 0 0] 34)
 have HB0:=As.mk hb0
 have hy:=push3 w.heap (.cells #[.bool false,.slice A1 s.M.length c1,.slice none 0 0,.slice A3 s.X.length c3,.slice A4 s.C.length c4,.slice A5 s.J.length c5] 95) (.cells #[.slice none 0 0,.slice none 0 0] 34) (.cells #[.slice none 0 0,.slice none 0 0] 34)
 clear hb0 hy
 have HY:=As.mk (show ((w.alloc (.cells #[.bool false,.slice A1 s.M.length c1,.slice none 0 0,.slice A3 s.X.length c3,.slice A4 s.C.length c4,.slice A5 s.J.length c5] 95)).alloc (.cells #[.slice none 0 0,.slice none 0 0] 34)).heap[w.heap.size+1]?=some (.cells #[.slice none 0 0,.slice none 0 0] 34 (0,0)) from by have:=(Go.MapKept.heap_alloc (w.alloc (.cells #[.bool false,.slice A1 s.M.length c1,.slice none 0 0,.slice A3 s.X.length c3,.slice A4 s.C.length c4,.slice A5 s.J.length c5] 95)) (.cells #[.slice none 0 0,.slice none 0 0] 34)).1;simpa using this)
 go_wp2_with (go_at_call 162;refine(HN.out _ HB0.out).mono ?_;rintro e w2 ⟨A2,B2,c2,d2,rfl,ho,hb⟩;have HY2:=As.mk ((hb.block _ (blk_lt HY.out)).trans HY.out);have HO2:=As.mk (ho.lower HB0.out.size);have HB2:=As.mk (bt_ HB0.out hb);clear ho hb HN;have z0:=frozen_of HY2.out 0;have z1:=frozen_of HY2.out 1;have f0:=cell_of (i:=0) HY2.out rfl;have f1:=cell_of (i:=1) HY2.out rfl)
 refine bodyPost_ret (v:=.tuple #[.agg #[.slice A2 (bL E).length c2,.slice B2 (mL E).length d2],.int .i64 (s.M.length:Int),.int .i64 0]) ?_ rfl ⟨A2,B2,c2,d2,rfl,?_,?_⟩
 ·simp only[results,show Tryz.f126.results=#[.cell 2 34,.tmp 3,.tmp 4] from rfl]
  first|(go_simp;done)|(go_simp;rfl)
 ·exact(HO2.out.set HY2.out 0 _).set (blk_set HY2.out 0 _) 1 _
 ·exact(HB2.out.setCell (p:=⟨w.heap.size+1,0,none⟩) (by show w.heap.size≤w.heap.size+1;omega) _).setCell (p:=⟨w.heap.size+1,1,none⟩) (by show w.heap.size≤w.heap.size+1;omega) _
def vV (A0 B0 A3 A4 A5:Option Addr) (c0 d0 c3 c4 c5:Nat) (E:List Ent) (s:Vc.Sp):Value:=.agg #[.slice A0 (bL E).length c0,.slice B0 (mL E).length d0,.slice A4 s.C.length c4,.slice A5 s.J.length c5,.slice A3 s.X.length c3]
theorem zeroV (w:World):(zeroValue 38).run Tryz.prog w=.ok (.agg #[.slice none 0 0,.slice none 0 0,.slice none 0 0,.slice none 0 0,.slice none 0 0]) w:=Z15
theorem ROwn.setV {w:World} {base g:Nat} {cells:Array Value} {A B:Option Addr} {c d:Nat} {E:List Ent} (h:ROwn w base A B c d E) (hb:w.heap[g]?=some (.cells cells 38 (0,0))) (j:Nat) (u:Value):ROwn (w.setCell ⟨g,j,none⟩ u) base A B c d E:=⟨Kd.R_set h.b hb (Z31) j u,Kd.R_set h.m hb (Z31) j u⟩
theorem new_ref {A1 A3 A4 A5:Option Addr} (c1 c3 c4 c5:Nat) {s:Vc.Sp} {w:World} (hs:SpAt w A1 A3 A4 A5 s) (h:VOk s) (hc3:s.X.length≤c3) :
  Calls Tryz.prog 90 #[spV A1 A3 A4 A5 c1 c3 c4 c5 s] w fun e w'=>∃ A0 B0 c0 d0,e=.returned (.tuple #[vV A0 B0 A3 A4 A5 c0 d0 c3 c4 c5 (tabOf s).1 s,.int .i64 0,.int .i64 0,.int .i64 0])/\ROwn w' w.heap.size A0 B0 c0 d0 (tabOf s).1/\Below w.heap.size w w':=by
 have HS:=As.mk hs
 have HN:=As.mk (fun(W:World) (hb:Below w.heap.size w W)=>load_ref c1 c3 c4 c5 (HS.out.below hb) h)
 have hset:=h.set
 have hnp:((Mk.newP s.X).2 != 0)=false:=by rw[hset];rfl
 have HC:=As.mk (fun(W:World) (hb:Below w.heap.size w W)=>Mk.check_any' A3 c3 s.X W (Kd.C_below HS.out.X hb) hc3 (by have:=h.sp.nX;omega))
 rw[hset]at HC
 have hX:s.X.length≤32:=h.sp.nX
 have HI:=As.mk h.ids
 generalize (Mk.newP s.X).1=nX at HC
 have hz:=zeroV
 have hz2:∀ w,(zeroValue 34).run Tryz.prog w=.ok (.agg #[.slice none 0 0,.slice none 0 0]) w:=fun w=>Z15
 generalize (tabOf s).1=E at *
 unfold spV at HN
 unfold rV at HN
 unfold spV vV
 clear hset h hs hnp
 have HB0:=As.mk (below_alloc (below_alloc (Below.refl w.heap.size w) (.cells #[.bool false,.slice A1 s.M.length c1,.slice none 0 0,.slice A3 s.X.length c3,.slice A4 s.C.length c4,.slice A5 s.J.length c5] 95)) (.cells #[.slice none 0 0,.slice none 0 0,.slice none 0 0,.slice none 0 0,.slice none 0 0] 38))
 have HY0:=As.mk (show ((w.alloc (.cells #[.bool false,.slice A1 s.M.length c1,.slice none 0 0,.slice A3 s.X.length c3,.slice A4 s.C.length c4,.slice A5 s.J.length c5] 95)).alloc (.cells #[.slice none 0 0,.slice none 0 0,.slice none 0 0,.slice none 0 0,.slice none 0 0] 38)).heap[w.heap.size+1]?=some (.cells #[.slice none 0 0,.slice none 0 0,.slice none 0 0,.slice none 0 0,.slice none 0 0] 38 (0,0)) from Z107)
 have HP0:=As.mk (show ((w.alloc (.cells #[.bool false,.slice A1 s.M.length c1,.slice none 0 0,.slice A3 s.X.length c3,.slice A4 s.C.length c4,.slice A5 s.J.length c5] 95)).alloc (.cells #[.slice none 0 0,.slice none 0 0,.slice none 0 0,.slice none 0 0,.slice none 0 0] 38)).heap[w.heap.size]?=some (.cells #[.bool false,.slice A1 s.M.length c1,.slice none 0 0,.slice A3 s.X.length c3,.slice A4 s.C.length c4,.slice A5 s.J.length c5] 95 (0,0)) from by show ((w.heap.push _).push _)[w.heap.size]?=_;rw[Array.getElem?_push,if_neg (by simp),Array.getElem?_push,if_pos rfl])
 go_enter Tryz.func90,Tryz.ntmps90
 go_wp2_with (first
  | (go_at_call 126;refine(HN.out _ HB0.out).mono ?_;rintro e w2 ⟨A2,B2,c2,d2,rfl,ho,hb⟩;have HB2:=As.mk (bt_ HB0.out hb);have HY2:=As.mk ((hb.block _ (blk_lt HY0.out)).trans HY0.out);have HP2:=As.mk ((hb.block _ (blk_lt HP0.out)).trans HP0.out);have HO2:=As.mk ho;have hba:=below_alloc (Below.refl w2.heap.size w2) (.cells #[.slice A2 (bL E).length c2,.slice B2 (mL E).length d2] 34);have HB3:=As.mk (bt_ HB2.out hba);have HY3:=As.mk ((hba.block _ (blk_lt HY2.out)).trans HY2.out);have HP3:=As.mk ((hba.block _ (blk_lt HP2.out)).trans HP2.out);have HO3:=As.mk ((HO2.out.below hba).lower HB0.out.size);have HT3:=As.mk (Go.MapKept.heap_alloc w2 (.cells #[.slice A2 (bL E).length c2,.slice B2 (mL E).length d2] 34)).1;clear hba hb ho HN HB0 HY0 HP0 HB2 HY2 HP2 HO2;have p3:=cell_of (i:=3) HP3.out rfl))
 refine(HC.out _ HB3.out).mono ?_
 rintro e w4 ⟨rfl,⟨⟨n,hw⟩⟩⟩
 have hq:=pw_below_drewN (Below.refl (w2.alloc (.cells #[.slice A2 (bL E).length c2,.slice B2 (mL E).length d2] 34)).heap.size (w2.alloc (.cells #[.slice A2 (bL E).length c2,.slice B2 (mL E).length d2] 34))) n
 rw[←hw]at hq
 have HB4:=As.mk (bt_ HB3.out hq)
 have HY4:=As.mk ((hq.block _ (blk_lt HY3.out)).trans HY3.out)
 have HP4:=As.mk ((hq.block _ (blk_lt HP3.out)).trans HP3.out)
 have HT4:=As.mk ((hq.block _ (blk_lt HT3.out)).trans HT3.out)
 have HO4:=As.mk (HO3.out.below hq)
 clear hq hw p3 HB3 HY3 HP3 HO3 HT3
 go_wp2
 go_loopg [9] s.X.length (fun k v9 w'=>∃ (i:Nat),v9=.int .i64 i/\i≤s.X.length/\As (w'.heap[w.heap.size+1]?=some (.cells #[.slice none 0 0,.slice none 0 0,.slice none 0 0,.slice none 0 0,.slice none 0 0] 38 (0,0)))/\As (w'.heap[w.heap.size]?=some (.cells #[.bool false,.slice A1 s.M.length c1,.slice none 0 0,.slice A3 s.X.length c3,.slice A4 s.C.length c4,.slice A5 s.J.length c5] 95 (0,0)))/\As (w'.heap[w2.heap.size]?=some (.cells #[.slice A2 (bL E).length c2,.slice B2 (mL E).length d2] 34 (0,0)))/\As (ROwn w' w.heap.size A2 B2 c2 d2 E)/\As (s.X.length-i≤k)/\As (Below w.heap.size w w'))
 case atStart=>exact⟨0,rfl,Z1,HY4,HP4,HT4,HO4,⟨Z1⟩,HB4⟩
 case round =>
  clear HY4 HP4 HT4 HO4 HB4
  obtain⟨i,rfl,hi,HY,HP,HT,HO,HM,HB⟩:=hrel
  have p3:=cell_of (i:=3) HP.out rfl
  by_cases hlt:i<s.X.length
  ·obtain⟨k1,rfl⟩:∃ k1,gk=k1+1:=⟨gk-1,Z104⟩
   have hltI:(i:Int)<s.X.length:=Z1
   obtain⟨ad,rfl,x0,x1⟩:=at_T93 (Kd.C_below HS.out.X HB.out) (i:Int) (Z1) (Z1)
   rw[Int.toNat_natCast]at x0 x1
   have hid:=HI.out (rd_T93 s.X i) (by unfold rd_T93;rw[Int.toNat_natCast,List.getD_eq_getElem?_getD,List.getElem?_eq_getElem hlt];exact List.getElem_mem hlt)
   have hid2:¬ (rd_T93 s.X i).f0<((bL E).length:Int):=by rw[bL_len];omega
   have t0:=cell_of (i:=0) HT.out rfl
   generalize rd_T93 s.X i=x at *
   clear hid x1
   go_wp2
   go_quiet (fail)
   have hq:=pw_below_drewN (Below.refl wr.heap.size wr) nq
   have HY5:=As.mk ((hq.block _ (blk_lt HY.out)).trans HY.out)
   have HP5:=As.mk ((hq.block _ (blk_lt HP.out)).trans HP.out)
   have HT5:=As.mk ((hq.block _ (blk_lt HT.out)).trans HT.out)
   have HO5:=As.mk (HO.out.below hq)
   have HB5:=As.mk (bt_ HB.out hq)
   clear hq p3 t0 x0 HY HP HT HO HB
   generalize wr.drewN nq=w5 at HY5 HP5 HT5 HO5 HB5 ⊢
   go_wp2
   go_roundg k1
   case measure=>omega
   case rel=>exact⟨i+1,Z67,Z1,HY5,HP5,HT5,HO5,⟨Z104⟩,HB5⟩
  ·obtain rfl:i=s.X.length:=by omega
   have p4:=cell_of (i:=4) HP.out rfl
   have p5:=cell_of (i:=5) HP.out rfl
   have t0:=cell_of (i:=0) HT.out rfl
   have t1:=cell_of (i:=1) HT.out rfl
   have y0:=cell_of (i:=0) HY.out rfl
   have y1:=cell_of (i:=1) HY.out rfl
   have y2:=cell_of (i:=2) HY.out rfl
   have y3:=cell_of (i:=3) HY.out rfl
   have y4:=cell_of (i:=4) HY.out rfl
   have z0:=frozen_of HY.out 0
   have z1:=frozen_of HY.out 1
   have z2:=frozen_of HY.out 2
   have z3:=frozen_of HY.out 3
   have z4:=frozen_of HY.out 4
   go_wp2
   refine bodyPost_ret (v:=.tuple #[.agg #[.slice A2 (bL E).length c2,.slice B2 (mL E).length d2,.slice A4 s.C.length c4,.slice A5 s.J.length c5,.slice A3 s.X.length c3],.int .i64 0,.int .i64 0,.int .i64 0]) ?_ rfl ⟨A2,B2,c2,d2,rfl,?_,?_⟩
   ·simp only[results,show Tryz.f90.results=#[.cell 2 38,.tmp 3,.tmp 4,.tmp 5] from rfl]
    first|(go_simp;done)|(go_simp;rfl)
   ·have g0:=blk_set HY.out 0 (.slice A2 (bL E).length c2)
    have g1:=blk_set g0 1 (.slice B2 (mL E).length d2)
    have g2:=blk_set g1 2 (.slice A4 s.C.length c4)
    have g3:=blk_set g2 3 (.slice A5 s.J.length c5)
    exact((((HO.out.setV HY.out 0 _).setV g0 1 _).setV g1 2 _).setV g2 3 _).setV g3 4 _
   ·have hle:w.heap.size≤w.heap.size+1:=by omega
    exact((((HB.out.setCell (p:=⟨w.heap.size+1,0,none⟩) hle _).setCell (p:=⟨w.heap.size+1,1,none⟩) hle _).setCell (p:=⟨w.heap.size+1,2,none⟩) hle _).setCell (p:=⟨w.heap.size+1,3,none⟩) hle _).setCell (p:=⟨w.heap.size+1,4,none⟩) hle _
theorem of_ref {A1 A3 A4 A5:Option Addr} (c1 c3 c4 c5:Nat) {s:Vc.Sp} {w:World} (hs:SpAt w A1 A3 A4 A5 s) (h:VOk s) (hc3:s.X.length≤c3) :
  Calls Tryz.prog 52 #[spV A1 A3 A4 A5 c1 c3 c4 c5 s] w fun e w'=>∃ A0 B0 c0 d0,e=.returned (vV A0 B0 A3 A4 A5 c0 d0 c3 c4 c5 (tabOf s).1 s)/\ROwn w' w.heap.size A0 B0 c0 d0 (tabOf s).1/\Below w.heap.size w w':=by
 have HS:=As.mk hs
 have HN:=As.mk (fun(W:World) (hb:Below w.heap.size w W)=>new_ref c1 c3 c4 c5 (HS.out.below hb) h hc3)
 have hz:=zeroV
 generalize (tabOf s).1=E at *
 unfold spV at HN
 unfold vV at HN
 unfold spV vV
 clear h hs
 have HB0:=As.mk (below_alloc (below_alloc (Below.refl w.heap.size w) (.cells #[.bool false,.slice A1 s.M.length c1,.slice none 0 0,.slice A3 s.X.length c3,.slice A4 s.C.length c4,.slice A5 s.J.length c5] 95)) (.cells #[.slice none 0 0,.slice none 0 0,.slice none 0 0,.slice none 0 0,.slice none 0 0] 38))
 have HY0:=As.mk (show ((w.alloc (.cells #[.bool false,.slice A1 s.M.length c1,.slice none 0 0,.slice A3 s.X.length c3,.slice A4 s.C.length c4,.slice A5 s.J.length c5] 95)).alloc (.cells #[.slice none 0 0,.slice none 0 0,.slice none 0 0,.slice none 0 0,.slice none 0 0] 38)).heap[w.heap.size+1]?=some (.cells #[.slice none 0 0,.slice none 0 0,.slice none 0 0,.slice none 0 0,.slice none 0 0] 38 (0,0)) from Z107)
 go_enter Tryz.func52,Tryz.ntmps52
 go_wp2_with (go_at_call 90;refine(HN.out _ HB0.out).mono ?_;rintro e w2 ⟨A0,B0,c0,d0,rfl,ho,hb⟩;have HB2:=As.mk (bt_ HB0.out hb);have HY2:=As.mk ((hb.block _ (blk_lt HY0.out)).trans HY0.out);have hba:=below_alloc (Below.refl w2.heap.size w2) (.cells #[.slice A0 (bL E).length c0,.slice B0 (mL E).length d0,.slice A4 s.C.length c4,.slice A5 s.J.length c5,.slice A3 s.X.length c3] 38);have HB3:=As.mk (bt_ HB2.out hba);have HY3:=As.mk ((hba.block _ (blk_lt HY2.out)).trans HY2.out);have HO3:=As.mk ((ho.below hba).lower HB0.out.size);clear hba hb ho HN HB0 HY0 HB2 HY2;have z0:=frozen_of HY3.out 0;have z1:=frozen_of HY3.out 1;have z2:=frozen_of HY3.out 2;have z3:=frozen_of HY3.out 3;have z4:=frozen_of HY3.out 4;have y0:=cell_of (i:=0) HY3.out rfl;have y1:=cell_of (i:=1) HY3.out rfl;have y2:=cell_of (i:=2) HY3.out rfl;have y3:=cell_of (i:=3) HY3.out rfl;have y4:=cell_of (i:=4) HY3.out rfl)
 refine bodyPost_ret (v:=.agg #[.slice A0 (bL E).length c0,.slice B0 (mL E).length d0,.slice A4 s.C.length c4,.slice A5 s.J.length c5,.slice A3 s.X.length c3]) ?_ rfl ⟨A0,B0,c0,d0,rfl,?_,?_⟩
 ·simp only[results,show Tryz.f52.results=#[.cell 2 38] from rfl]
  first|(go_simp;done)|(go_simp;rfl)
 ·have g0:=blk_set HY3.out 0 (.slice A0 (bL E).length c0)
  have g1:=blk_set g0 1 (.slice B0 (mL E).length d0)
  have g2:=blk_set g1 2 (.slice A4 s.C.length c4)
  have g3:=blk_set g2 3 (.slice A5 s.J.length c5)
  exact((((HO3.out.setV HY3.out 0 _).setV g0 1 _).setV g1 2 _).setV g2 3 _).setV g3 4 _
 ·have hle:w.heap.size≤w.heap.size+1:=by omega
  exact((((HB3.out.setCell (p:=⟨w.heap.size+1,0,none⟩) hle _).setCell (p:=⟨w.heap.size+1,1,none⟩) hle _).setCell (p:=⟨w.heap.size+1,2,none⟩) hle _).setCell (p:=⟨w.heap.size+1,3,none⟩) hle _).setCell (p:=⟨w.heap.size+1,4,none⟩) hle _
end Go.Proofs.YtkffhgiiejbnaaaGreat.Rt
namespace Go.Proofs.YtkffhgiiejbnaaaGreat.Rt
open Go.RowKit YtkffhgiiejbnaaaGreatW.PrintWords YtkffhgiiejbnaaaGreatW.PrintLast YtkffhgiiejbnaaaGreatW.PrintMore Rf Aid Mp Hp Tk Vc Bn
def okCb (c:S165):Bool:=decide (0≤c.f0/\c.f0≤c.f1/\c.f1<256/\0≤c.f2/\c.f2<16)
def okJb (j:S108):Bool:=decide ((0≤j.f0/\j.f0<16)/\(0≤j.f1/\j.f1<16))
theorem cell_R {w:World} {p t i:Nat} {cs:Array Value} {v:Value} (h:w.heap[p]?=some (.cells cs t (0,0))) (hv:cs[i]?=some v):w.cell? ⟨p,i,none⟩=some v:=Z75
theorem rightC (A:Option Addr) (c:Nat) (x:S165) (w:World) (hr:Kd.C k165 w A 1 [x]) (hc:1≤c):Calls Tryz.prog 88 #[.agg #[.slice A 1 c,.slice none 0 0]] w fun e w'=>e=.returned (.bool (okCb x))/\Below w.heap.size w w':=by
 have HB:=As.mk (below_alloc (Below.refl w.heap.size w) (.cells #[.slice A 1 c,.slice none 0 0] 36))
 have HE:=As.mk (Go.MapKept.heap_alloc w (.cells #[.slice A 1 c,.slice none 0 0] 36)).1
 have HR:=As.mk (Kd.C_below hr HB.out)
 clear hr
 have hcase:(x.f0<0)\/(0≤x.f0/\x.f1<x.f0)\/(0≤x.f0/\x.f0≤x.f1/\255<x.f1)\/(0≤x.f0/\x.f0≤x.f1/\x.f1≤255/\x.f2<0)\/(0≤x.f0/\x.f0≤x.f1/\x.f1≤255/\0≤x.f2/\15<x.f2)\/(0≤x.f0/\x.f0≤x.f1/\x.f1≤255/\0≤x.f2/\x.f2≤15):=Z1
 have HC:=As.mk hcase
 clear hcase
 go_enter Tryz.func88,Tryz.ntmps88
 go_wp2
 generalize w.alloc (.cells #[.slice A 1 c,.slice none 0 0] 36)=w1 at *
 go_loopg [3] 1 (fun k v3 w'=>∃ (i:Nat),v3=.int .i64 (i:Int)/\i≤1/\As (1-i≤k)/\As (i=1->okCb x=true)/\As (Below w1.heap.size w1 w'))
 case atStart=>exact⟨0,rfl,Z1,⟨Z1⟩,⟨fun h=>Z1⟩,⟨Below.refl _ _⟩⟩
 case round =>
  obtain⟨i,rfl,hi,HK,HI,HW⟩:=hrel
  have hE:=(HW.out.block _ (blk_lt HE.out)).trans HE.out
  have k0:=cell_R (i:=0) hE rfl
  have k1:=cell_R (i:=1) hE rfl
  obtain⟨ad,rfl,x0,x1,x2⟩:=at_T165 (Kd.C_below HR.out HW.out) 0 (Z1) (Z1)
  rw[show rd_T165 [x] 0=x from rfl]at x0 x1 x2
  rw[show ad.add (Int.toNat 0 * 3)=ad by cases ad;rfl]at x0 x1 x2
  obtain rfl|rfl:i=0\/i=1:=Z1
  ·obtain⟨k2,rfl⟩:∃ k2,gk=k2+1:=⟨gk-1,Z65⟩
   rcases HC.out with h1|⟨h1,h2⟩|⟨h1,h2,h3⟩|⟨h1,h2,h3,h4⟩|⟨h1,h2,h3,h4,h5⟩|⟨h1,h2,h3,h4,h5⟩
   case inr.inr.inr.inr.inr =>
    have HO:=As.mk (show okCb x=true from decide_eq_true (Z1))
    go_wp2
    go_roundg k2
    case measure=>omega
    case rel=>exact⟨1,rfl,Z1,⟨Z1⟩,⟨fun _=>HO.out⟩,⟨below_alloc HW.out _⟩⟩
   all_goals
    have HO:=As.mk (show okCb x=false from decide_eq_false (Z1))
    go_wp2
    go_ret
    exact⟨by rw[HO.out];rfl,below_alloc (HB.out.trans (HW.out.mono HB.out.size)) _⟩
  ·have HO:=As.mk (HI.out rfl)
   go_wp2
   go_loopg [5] 0 (fun k v5 w'=>v5=.int .i64 0/\As (Below w1.heap.size w1 w'))
   case atStart=>exact⟨rfl,HW⟩
   case round =>
    clear hE k0 k1 x0 x1 x2
    obtain⟨rfl,HV⟩:=hrel
    have hE:=(HV.out.block _ (blk_lt HE.out)).trans HE.out
    have k0:=cell_R (i:=0) hE rfl
    have k1:=cell_R (i:=1) hE rfl
    go_wp2
    go_ret
    exact⟨by rw[HO.out];rfl,HB.out.trans (HV.out.mono HB.out.size)⟩
theorem rightJ (A:Option Addr) (c:Nat) (x:S108) (w:World) (hr:Kd.C k108 w A 1 [x]) (hc:1≤c):Calls Tryz.prog 88 #[.agg #[.slice none 0 0,.slice A 1 c]] w fun e w'=>e=.returned (.bool (okJb x))/\Below w.heap.size w w':=by
 have HB:=As.mk (below_alloc (Below.refl w.heap.size w) (.cells #[.slice none 0 0,.slice A 1 c] 36))
 have HE:=As.mk (Go.MapKept.heap_alloc w (.cells #[.slice none 0 0,.slice A 1 c] 36)).1
 have HR:=As.mk (Kd.C_below hr HB.out)
 clear hr
 have hcase:(x.f0<0)\/(0≤x.f0/\15<x.f0)\/(0≤x.f0/\x.f0≤15/\x.f1<0)\/(0≤x.f0/\x.f0≤15/\0≤x.f1/\15<x.f1)\/(0≤x.f0/\x.f0≤15/\0≤x.f1/\x.f1≤15):=Z1
 have HC:=As.mk hcase
 clear hcase
 go_enter Tryz.func88,Tryz.ntmps88
 go_wp2
 generalize w.alloc (.cells #[.slice none 0 0,.slice A 1 c] 36)=w1 at *
 go_loopg [3] 0 (fun k v3 w'=>v3=.int .i64 0/\As (Below w1.heap.size w1 w'))
 case atStart=>exact⟨rfl,⟨Below.refl _ _⟩⟩
 case round =>
  obtain⟨rfl,HV⟩:=hrel
  have hE:=(HV.out.block _ (blk_lt HE.out)).trans HE.out
  have k0:=cell_R (i:=0) hE rfl
  have k1:=cell_R (i:=1) hE rfl
  go_wp2
  go_loopg [5] 1 (fun k v3 w'=>∃ (i:Nat),v3=.int .i64 (i:Int)/\i≤1/\As (1-i≤k)/\As (i=1->okJb x=true)/\As (Below w1.heap.size w1 w'))
  case atStart=>exact⟨0,rfl,Z1,⟨Z1⟩,⟨fun h=>Z1⟩,HV⟩
  case round =>
   clear hE k0 k1 HV
   obtain⟨i,rfl,hi,HK,HI,HW⟩:=hrel
   have hE:=(HW.out.block _ (blk_lt HE.out)).trans HE.out
   have k0:=cell_R (i:=0) hE rfl
   have k1:=cell_R (i:=1) hE rfl
   obtain⟨ad,rfl,x0,x1⟩:=at_T108 (Kd.C_below HR.out HW.out) 0 (Z1) (Z1)
   rw[show rd_T108 [x] 0=x from rfl]at x0 x1
   rw[show ad.add (Int.toNat 0 * 2)=ad by cases ad;rfl]at x0 x1
   obtain rfl|rfl:i=0\/i=1:=Z1
   ·obtain⟨k2,rfl⟩:∃ k2,gk=k2+1:=⟨gk-1,Z65⟩
    rcases HC.out with h1|⟨h1,h2⟩|⟨h1,h2,h3⟩|⟨h1,h2,h3,h4⟩|⟨h1,h2,h3,h4⟩
    case inr.inr.inr.inr =>
     have HO:=As.mk (show okJb x=true from decide_eq_true (Z1))
     go_wp2
     go_roundg k2
     case measure=>omega
     case rel=>exact⟨1,rfl,Z1,⟨Z1⟩,⟨fun _=>HO.out⟩,⟨below_alloc HW.out _⟩⟩
    all_goals
     have HO:=As.mk (show okJb x=false from decide_eq_false (Z1))
     go_wp2
     go_ret
     exact⟨by rw[HO.out];rfl,below_alloc (HB.out.trans (HW.out.mono HB.out.size)) _⟩
   ·have HO:=As.mk (HI.out rfl)
    go_wp2
    go_ret
    exact⟨by rw[HO.out];rfl,HB.out.trans (HW.out.mono HB.out.size)⟩
end Go.Proofs.YtkffhgiiejbnaaaGreat.Rt
namespace Go.Proofs.YtkffhgiiejbnaaaGreat.Rt
open Go.RowKit YtkffhgiiejbnaaaGreatW.PrintWords YtkffhgiiejbnaaaGreatW.PrintLast YtkffhgiiejbnaaaGreatW.PrintMore Rf Aid Mp Hp Tk Vc Bn
structure SmW (w0 w:World) (g:Nat) (A1 A3 A4 A5:Option Addr) (c1 c3 c4 c5:Nat) (s:Vc.Sp):Prop where
 below:Below w0.heap.size w0 w
 blk:w.heap[g]?=some (.cells #[.bool false,.slice A1 s.M.length c1,.slice none 0 0,.slice A3 s.X.length c3,.slice A4 s.C.length c4,.slice A5 s.J.length c5] 95 (0,0))
 res:w.heap[w0.heap.size]?=some (.cells #[.bool false,.slice none 0 0,.slice none 0 0,.slice none 0 0,.slice none 0 0,.slice none 0 0] 95 (0,0))
 lg:w0.heap.size<g
 M:Kd.R k91 91 w w0.heap.size (fun _=>True) (.slice A1 s.M.length c1) s.M
 X:Kd.R k93 93 w w0.heap.size (fun _=>True) (.slice A3 s.X.length c3) s.X
 C:Kd.R k165 165 w w0.heap.size (fun _=>True) (.slice A4 s.C.length c4) s.C
 J:Kd.R k108 108 w w0.heap.size (fun _=>True) (.slice A5 s.J.length c5) s.J
theorem SmW.next {w0 w w':World} {g:Nat} {A1 A3 A4 A5:Option Addr} {c1 c3 c4 c5:Nat} {s:Vc.Sp} (h:SmW w0 w g A1 A3 A4 A5 c1 c3 c4 c5 s) (hb:Below w.heap.size w w'):SmW w0 w' g A1 A3 A4 A5 c1 c3 c4 c5 s :=
 ⟨bt_ h.below hb,(hb.block _ (blk_lt h.blk)).trans h.blk,(hb.block _ (blk_lt h.res)).trans h.res,h.lg,Kd.R_below h.M hb,Kd.R_below h.X hb,Kd.R_below h.C hb,Kd.R_below h.J hb⟩
theorem SmW.putC {w0 w w1:World} {g:Nat} {A1 A3 A4 A5 A':Option Addr} {c1 c3 c4 c5 c':Nat} {s:Vc.Sp} {x:S165} (h:SmW w0 w g A1 A3 A4 A5 c1 c3 c4 c5 s) (hb:Below w0.heap.size w0 w1) (hg:w.grownBy w1 (Value.slice A4 s.C.length c4).ownBlock)
  (hr:Kd.R k165 165 w1 w0.heap.size (fun _=>True) (.slice A' (s.C++[x]).length c') (s.C++[x])):SmW w0 (w1.setCell ⟨g,4,none⟩ (.slice A' (s.C++[x]).length c')) g A1 A3 A' A5 c1 c3 c' c5 { s with C:=s.C++[x] }:=by
 have hk:=blk_grown h.blk hg (Kd.R_ne h.C h.blk (Z31))
 have hr':=blk_grown h.res hg (Kd.R_ne h.C h.res (Z31))
 exact⟨hb.setCell (p:=⟨g,4,none⟩) (Nat.le_of_lt h.lg) _,blk_set hk 4 _,blk_far hr' (p:=⟨g,4,none⟩) (Nat.ne_of_lt h.lg) _,h.lg,Kd.R_set (Kd.R_over h.M h.C (Z31) hg) hk (Z31) 4 _,Kd.R_set (Kd.R_over h.X h.C (Z31) hg) hk (Z31) 4 _,Kd.R_set hr hk (Z31) 4 _,Kd.R_set (Kd.R_over h.J h.C (Z31) hg) hk (Z31) 4 _⟩
theorem SmW.putJ {w0 w w1:World} {g:Nat} {A1 A3 A4 A5 A':Option Addr} {c1 c3 c4 c5 c':Nat} {s:Vc.Sp} {x:S108} (h:SmW w0 w g A1 A3 A4 A5 c1 c3 c4 c5 s) (hb:Below w0.heap.size w0 w1) (hg:w.grownBy w1 (Value.slice A5 s.J.length c5).ownBlock)
  (hr:Kd.R k108 108 w1 w0.heap.size (fun _=>True) (.slice A' (s.J++[x]).length c') (s.J++[x])):SmW w0 (w1.setCell ⟨g,5,none⟩ (.slice A' (s.J++[x]).length c')) g A1 A3 A4 A' c1 c3 c4 c' { s with J:=s.J++[x] }:=by
 have hk:=blk_grown h.blk hg (Kd.R_ne h.J h.blk (Z31))
 have hr':=blk_grown h.res hg (Kd.R_ne h.J h.res (Z31))
 exact⟨hb.setCell (p:=⟨g,5,none⟩) (Nat.le_of_lt h.lg) _,blk_set hk 5 _,blk_far hr' (p:=⟨g,5,none⟩) (Nat.ne_of_lt h.lg) _,h.lg,Kd.R_set (Kd.R_over h.M h.J (Z31) hg) hk (Z31) 5 _,Kd.R_set (Kd.R_over h.X h.J (Z31) hg) hk (Z31) 5 _,Kd.R_set (Kd.R_over h.C h.J (Z31) hg) hk (Z31) 5 _,Kd.R_set hr hk (Z31) 5 _⟩
theorem SmW.putX {w0 w:World} {g:Nat} {A1 A3 A4 A5 A':Option Addr} {c1 c3 c4 c5 c':Nat} {s:Vc.Sp} {X:List S93} (h:SmW w0 w g A1 A3 A4 A5 c1 c3 c4 c5 s)
  (hr:Kd.R k93 93 w w0.heap.size (fun _=>True) (.slice A' X.length c') X):SmW w0 (w.setCell ⟨g,3,none⟩ (.slice A' X.length c')) g A1 A' A4 A5 c1 c' c4 c5 { s with X:=X }:=by
 have hk:=h.blk
 exact⟨h.below.setCell (p:=⟨g,3,none⟩) (Nat.le_of_lt h.lg) _,blk_set hk 3 _,blk_far h.res (p:=⟨g,3,none⟩) (Nat.ne_of_lt h.lg) _,h.lg,Kd.R_set h.M hk (Z31) 3 _,Kd.R_set hr hk (Z31) 3 _,Kd.R_set h.C hk (Z31) 3 _,Kd.R_set h.J hk (Z31) 3 _⟩
def someX:List S93->Nat->List S93->List S93
 | [],_,acc=>acc
 | x::l,i,acc=>someX l (i+1) (if (Mk.newP (acc++[⟨1000+(i:Int),x.f1⟩])).2=0 then acc++[⟨1000+(i:Int),x.f1⟩] else acc)
def someS (L:List Int) (C:List S165) (J:List S108) (X:List S93):Vc.Sp:=⟨mL (growL (L.take 60) (byteL 256)),someX (X.take 6) 0 [],(C.take 8).filter okCb,(J.take 8).filter okJb⟩
theorem zeroSp (w:World):(zeroValue 95).run Tryz.prog w=.ok (.agg #[.bool false,.slice none 0 0,.slice none 0 0,.slice none 0 0,.slice none 0 0,.slice none 0 0]) w:=Z15
theorem cutC {w:World} {B:Option Addr} {d:Nat} {b:List S165} {i:Nat} (hr:Kd.C k165 w B b.length b) (hc:b.length≤d) (h1:i<b.length) :
  ∃ B',(∀ W:World,(Instr.slice 23 (.slice B b.length d) (some (.int .i64 (i:Int))) (some (.int .i64 ((i:Int)+1))) none).run Tryz.prog W=.ok (.slice B' 1 (d-i)) W)/\Kd.C k165 w B' 1 [b[i]]:=by
 have h:=Kd.C_mid (k:=k165) (xs:=b) hr (show i≤i+1 from Z1) (show i+1≤b.length from Z1) hc
 have he:(b.take (i+1)).drop i=[b[i]]:=Z180
 rw[he]at h
 have hel:Tryz.prog.elem 23=165:=by simp[Program.elem,Tryz.underlying23]
 refine⟨if d=i then B else B.map (·.add (i * 3)),fun W=>?_,h⟩
 rw[show ((i:Int)+1)=((i+1:Nat):Int) from Z1,run_slice_lh W 23 B b.length d (by rw[hel];exact Tryz.underlying23) .i64 .i64 (i:Int) ((i+1:Nat):Int) (Z1) (Z1) (Z1),hel]
 simp[Tryz.sizeOf165,sliced,Result.andThen]
theorem cutJ {w:World} {B:Option Addr} {d:Nat} {b:List S108} {i:Nat} (hr:Kd.C k108 w B b.length b) (hc:b.length≤d) (h1:i<b.length) :
  ∃ B',(∀ W:World,(Instr.slice 24 (.slice B b.length d) (some (.int .i64 (i:Int))) (some (.int .i64 ((i:Int)+1))) none).run Tryz.prog W=.ok (.slice B' 1 (d-i)) W)/\Kd.C k108 w B' 1 [b[i]]:=by
 have h:=Kd.C_mid (k:=k108) (xs:=b) hr (show i≤i+1 from Z1) (show i+1≤b.length from Z1) hc
 have he:(b.take (i+1)).drop i=[b[i]]:=Z180
 rw[he]at h
 have hel:Tryz.prog.elem 24=108:=by simp[Program.elem,Tryz.underlying24]
 refine⟨if d=i then B else B.map (·.add (i * 2)),fun W=>?_,h⟩
 rw[show ((i:Int)+1)=((i+1:Nat):Int) from Z1,run_slice_lh W 24 B b.length d (by rw[hel];exact Tryz.underlying24) .i64 .i64 (i:Int) ((i+1:Nat):Int) (Z1) (Z1) (Z1),hel]
 simp[Tryz.sizeOf108,sliced,Result.andThen]
structure SpOwn (w:World) (base:Nat) (A1 A3 A4 A5:Option Addr) (c1 c3 c4 c5:Nat) (s:Vc.Sp):Prop where
 M:Kd.R k91 91 w base (fun _=>True) (.slice A1 s.M.length c1) s.M
 X:Kd.R k93 93 w base (fun _=>True) (.slice A3 s.X.length c3) s.X
 C:Kd.R k165 165 w base (fun _=>True) (.slice A4 s.C.length c4) s.C
 J:Kd.R k108 108 w base (fun _=>True) (.slice A5 s.J.length c5) s.J
theorem SpOwn.at_ {w:World} {base:Nat} {A1 A3 A4 A5:Option Addr} {c1 c3 c4 c5:Nat} {s:Vc.Sp} (h:SpOwn w base A1 A3 A4 A5 c1 c3 c4 c5 s):SpAt w A1 A3 A4 A5 s:=⟨(Kd.R_reads' h.M).2.2,(Kd.R_reads' h.X).2.2,(Kd.R_reads' h.C).2.2,(Kd.R_reads' h.J).2.2⟩
theorem SpOwn.below {w w':World} {base:Nat} {A1 A3 A4 A5:Option Addr} {c1 c3 c4 c5:Nat} {s:Vc.Sp} (h:SpOwn w base A1 A3 A4 A5 c1 c3 c4 c5 s) (hb:Below w.heap.size w w'):SpOwn w' base A1 A3 A4 A5 c1 c3 c4 c5 s:=⟨Kd.R_below h.M hb,Kd.R_below h.X hb,Kd.R_below h.C hb,Kd.R_below h.J hb⟩
theorem SmW.fin {w0 w:World} {g:Nat} {A1 A3 A4 A5:Option Addr} {c1 c3 c4 c5:Nat} {s:Vc.Sp} (h:SmW w0 w g A1 A3 A4 A5 c1 c3 c4 c5 s) (u0 u1 u2 u3 u4 u5:Value) :
  SpOwn ((((((w.setCell ⟨w0.heap.size,0,none⟩ u0).setCell ⟨w0.heap.size,1,none⟩ u1).setCell ⟨w0.heap.size,2,none⟩ u2).setCell ⟨w0.heap.size,3,none⟩ u3).setCell ⟨w0.heap.size,4,none⟩ u4).setCell ⟨w0.heap.size,5,none⟩ u5) w0.heap.size A1 A3 A4 A5 c1 c3 c4 c5 s/\Below w0.heap.size w0 ((((((w.setCell ⟨w0.heap.size,0,none⟩ u0).setCell ⟨w0.heap.size,1,none⟩ u1).setCell ⟨w0.heap.size,2,none⟩ u2).setCell ⟨w0.heap.size,3,none⟩ u3).setCell ⟨w0.heap.size,4,none⟩ u4).setCell ⟨w0.heap.size,5,none⟩ u5):=by
 have r1:=blk_set h.res 0 u0
 have r2:=blk_set r1 1 u1
 have r3:=blk_set r2 2 u2
 have r4:=blk_set r3 3 u3
 have r5:=blk_set r4 4 u4
 have hM:=Kd.R_set (Kd.R_set (Kd.R_set (Kd.R_set (Kd.R_set (Kd.R_set h.M h.res (Z31) 0 u0) r1 (Z31) 1 u1) r2 (Z31) 2 u2) r3 (Z31) 3 u3) r4 (Z31) 4 u4) r5 (Z31) 5 u5
 have hX:=Kd.R_set (Kd.R_set (Kd.R_set (Kd.R_set (Kd.R_set (Kd.R_set h.X h.res (Z31) 0 u0) r1 (Z31) 1 u1) r2 (Z31) 2 u2) r3 (Z31) 3 u3) r4 (Z31) 4 u4) r5 (Z31) 5 u5
 have hC:=Kd.R_set (Kd.R_set (Kd.R_set (Kd.R_set (Kd.R_set (Kd.R_set h.C h.res (Z31) 0 u0) r1 (Z31) 1 u1) r2 (Z31) 2 u2) r3 (Z31) 3 u3) r4 (Z31) 4 u4) r5 (Z31) 5 u5
 have hJ:=Kd.R_set (Kd.R_set (Kd.R_set (Kd.R_set (Kd.R_set (Kd.R_set h.J h.res (Z31) 0 u0) r1 (Z31) 1 u1) r2 (Z31) 2 u2) r3 (Z31) 3 u3) r4 (Z31) 4 u4) r5 (Z31) 5 u5
 refine⟨⟨hM,hX,hC,hJ⟩,?_⟩
 have hle:=Nat.le_refl w0.heap.size
 exact(((((h.below.setCell (p:=⟨w0.heap.size,0,none⟩) hle _).setCell (p:=⟨w0.heap.size,1,none⟩) hle _).setCell (p:=⟨w0.heap.size,2,none⟩) hle _).setCell (p:=⟨w0.heap.size,3,none⟩) hle _).setCell (p:=⟨w0.heap.size,4,none⟩) hle _).setCell (p:=⟨w0.heap.size,5,none⟩) hle _
theorem C_blk_sp {W:World} {g:Nat} {y:S93} (h:W.heap[g]?=some (.cells #[.int .i64 y.f0,.string y.f1] 93 (0,0))):Kd.C k93 W (some ⟨g,0,none⟩) 1 [y]:=by
 refine⟨rfl,Z31,fun _=>⟨_,rfl,fun j p hj=>?_⟩⟩
 cases j with
 | succ j=>simp at hj
 | zero =>
  simp only[List.getElem?_cons_zero,Option.some.injEq]at hj
  subst hj
  refine⟨[.int .i64 y.f0,.string y.f1],rfl,k93_mk _ y,fun i u hu=>?_⟩
  have e1:(⟨g,0,none⟩:Addr).add (0 * 2+i)=⟨g,i,none⟩:=Z63
  show W.cell? ((⟨g,0,none⟩:Addr).add (0 * 2+i))=_
  rw[e1]
  exact cell_of h (by simpa using hu)
theorem someX_cons (x:S93) (l:List S93) (i:Nat) (acc:List S93):someX (x::l) i acc=someX l (i+1) (if (Mk.newP (acc++[⟨1000+(i:Int),x.f1⟩])).2=0 then acc++[⟨1000+(i:Int),x.f1⟩] else acc):=rfl
theorem someX_take (X:List S93):∀ (l:List S93) (i:Nat) (acc:List S93),(someX l i acc).length≤acc.length+l.length
 | [],i,acc=>by simp[someX]
 | x::l,i,acc=>by
  unfold someX
  refine Nat.le_trans (someX_take X l (i+1) _) ?_
  split <;> simp <;> omega
theorem info_cl:(Tryz.prog.info? 165).map (fun i=>(i.zero,i.size,i.bytes))=some (some (.agg #[.int .i64 0,.int .i64 0,.int .i64 0]),3,24):=Z15
theorem info_jo:(Tryz.prog.info? 108).map (fun i=>(i.zero,i.size,i.bytes))=some (some (.agg #[.int .i64 0,.int .i64 0]),2,16):=Z15
theorem info_sp:(Tryz.prog.info? 93).map (fun i=>(i.zero,i.size,i.bytes))=some (some (.agg #[.int .i64 0,.string ⟨#[]⟩]),2,24):=Z15
theorem take_filter {α:Type} (p:α->Bool) (l:List α) {i:Nat} (h:i<l.length):(l.take (i+1)).filter p=if p l[i]=true then (l.take i).filter p++[l[i]] else (l.take i).filter p:=by
 rw[List.take_succ_eq_append_getElem h,List.filter_append]
 cases hp:p l[i] <;> simp[hp]
theorem some_any (A0 A1 A2 A3:Option Addr) (c0 c1 c2 c3:Nat) (L:List Int) (C:List S165) (J:List S108) (X:List S93) (w:World)
  (hL:Kd.C (Kd.int .u16) w A0 L.length L) (hx:∀ x∈L,0≤x/\x≤65535) (hC:Kd.C k165 w A1 C.length C) (hc1:C.length≤c1) (hJ:Kd.C k108 w A2 J.length J) (hc2:J.length≤c2) (hX:Kd.C k93 w A3 X.length X) :
  Calls Tryz.prog 51 #[.slice A0 L.length c0,.slice A1 C.length c1,.slice A2 J.length c2,.slice A3 X.length c3] w fun e w'=>∃ B1 B3 B4 B5 d1 d3 d4 d5,e=.returned (spV B1 B3 B4 B5 d1 d3 d4 d5 (someS L C J X))/\SpOwn w' w.heap.size B1 B3 B4 B5 d1 d3 d4 d5 (someS L C J X)/\Below w.heap.size w w':=by
 have HC:=As.mk hC
 have HJ:=As.mk hJ
 have HX:=As.mk hX
 have HG:=As.mk (fun(W:World) (hb:Below w.heap.size w W)=>grow_any A0 c0 L W (Kd.C_below hL hb) hx)
 have HM:=As.mk (show mL (growL (L.take 60) (byteL 256))=(someS L C J X).M from rfl)
 generalize growL (L.take 60) (byteL 256)=E at HG HM
 have HCJ:=As.mk (And.intro hC.2.1 (And.intro hJ.2.1 hX.2.1))
 have hz:=zeroSp
 unfold rV at HG
 clear hL hC hJ hX hx
 go_enter Tryz.func51,Tryz.ntmps51
 go_upto_block 0 with (go_at_call 87;refine(HG.out _ (below_alloc (Below.refl _ _) _)).mono ?_;rintro e w2 ⟨Aa,Ba,ca,da,rfl,ho,hgd,hb⟩;have HO2:=As.mk ho;have HB2:=As.mk (bt_ (below_alloc (Below.refl _ _) _) hb);have HR2:=As.mk ((hb.block _ (blk_lt (Go.MapKept.heap_alloc w _).1)).trans (Go.MapKept.heap_alloc w (.cells #[.bool false,.slice none 0 0,.slice none 0 0,.slice none 0 0,.slice none 0 0,.slice none 0 0] 95)).1);clear ho hgd hb HG)
 have HS3:As (SmW w ((w2.alloc (.cells #[.slice Aa (bL E).length ca,.slice Ba (mL E).length da] 34)).alloc (.cells #[.bool false,.slice Ba (mL E).length da,.slice none 0 0,.slice none 0 0,.slice none 0 0,.slice none 0 0] 95)) (w2.heap.size+1) Ba none none none da 0 0 0 ⟨mL E,[],[],[]⟩):=by
  have hb:=below_alloc (below_alloc (Below.refl w2.heap.size w2) (.cells #[.slice Aa (bL E).length ca,.slice Ba (mL E).length da] 34)) (.cells #[.bool false,.slice Ba (mL E).length da,.slice none 0 0,.slice none 0 0,.slice none 0 0,.slice none 0 0] 95)
  have hm:=Kd.R_lower (Kd.R_below HO2.out.m hb) (show w.heap.size≤(w.alloc (.cells #[.bool false,.slice none 0 0,.slice none 0 0,.slice none 0 0,.slice none 0 0,.slice none 0 0] 95)).heap.size by simp)
  have hk:=(Go.MapKept.heap_alloc (w2.alloc (.cells #[.slice Aa (bL E).length ca,.slice Ba (mL E).length da] 34)) (.cells #[.bool false,.slice Ba (mL E).length da,.slice none 0 0,.slice none 0 0,.slice none 0 0,.slice none 0 0] 95)).1
  have he:(w2.alloc (.cells #[.slice Aa (bL E).length ca,.slice Ba (mL E).length da] 34)).heap.size=w2.heap.size+1:=by simp
  rw[he]at hk
  exact⟨bt_ HB2.out hb,hk,(hb.block _ (blk_lt HR2.out)).trans HR2.out,by have:=blk_lt HR2.out;omega,hm,Kd.R_nil _ _ _ _ _,Kd.R_nil _ _ _ _ _,Kd.R_nil _ _ _ _ _⟩
 clear HO2 HB2 HR2
 go_cut [11] from 22 to 47 (fun v11 w'=>∃ A4 c4,As (SmW w w' (w2.heap.size+1) Ba none A4 none da 0 c4 0 ⟨mL E,[],(C.take 8).filter okCb,[]⟩))
 case first =>
  go_wp2_with fail
  go_loopg [11] 8 (fun k v11 w'=>∃ (i:Nat) (A4:Option Addr) (c4:Nat),v11=.int .i64 i/\i≤8/\i≤C.length/\As (SmW w w' (w2.heap.size+1) Ba none A4 none da 0 c4 0 ⟨mL E,[],(C.take i).filter okCb,[]⟩)/\As (8≤i+k))
  case atStart=>exact⟨0,none,0,rfl,Z1,Z1,HS3,⟨Z1⟩⟩
  case round =>
   clear HS3
   obtain⟨i,A4,c4,rfl,hi8,hil,HS,HM8⟩:=hrel
   by_cases hlt:i<C.length/\i<8
   ·obtain⟨k1,rfl⟩:∃ k1,gk=k1+1:=⟨gk-1,Z108⟩
    have hltI:(i:Int)<C.length:=Z1
    have hlt8:(i:Int)<8:=Z1
    obtain⟨B',hcut,hcutC⟩:=cutC (i:=i) HC.out hc1 hlt.1
    have HCUT:=As.mk hcutC
    obtain⟨ad,rfl,x0,x1,x2⟩:=at_T165 HC.out (i:Int) (Z1) (Z1)
    rw[Int.toNat_natCast]at x0 x1 x2
    have hrd:rd_T165 C (i:Int)=C[i]:=by unfold rd_T165;rw[Int.toNat_natCast,List.getD_eq_getElem?_getD,List.getElem?_eq_getElem hlt.1];rfl
    rw[hrd]at x0 x1 x2
    have htf:=take_filter okCb C hlt.1
    have HLT:=As.mk hlt
    have HC1:=As.mk hc1
    clear hcutC hrd
    generalize C[i]=x at *
    clear hlt
    cases hok:okCb x with
    | false =>
     rw[hok,if_neg (Z31)]at htf
     have HTF:=As.mk htf
     clear htf
     go_wp2_with (go_at_call 88;refine(rightC B' (c1-i) x _ (Kd.C_below HCUT.out HS.out.below) (Z109)).mono ?_;rw[hok];rintro e w4 ⟨rfl,hb⟩;have HS4:=As.mk (HS.out.next hb);clear hb HS)
     go_roundg k1
     case measure=>omega
     case rel=>exact⟨i+1,A4,c4,Z67,Z110,Z110,by rw[HTF.out];exact HS4,⟨Z108⟩⟩
    | true =>
     rw[hok,if_pos rfl]at htf
     have HTF:=As.mk htf
     clear htf
     go_wp2_with (go_at_call 88;refine(rightC B' (c1-i) x _ (Kd.C_below HCUT.out HS.out.below) (Z109)).mono ?_;rw[hok];rintro e w4 ⟨rfl,hb⟩;have HS4:=As.mk (HS.out.next hb);clear hb HS)
     have d4:=cell_of (i:=4) HS4.out.blk rfl
     have HLF:As (((C.take i).filter okCb).length≤8):=⟨by have:=List.length_filter_le okCb (C.take i);rw[List.length_take]at this;omega⟩
     generalize hF:(C.take i).filter okCb=F at *
     refine start_ (n:=10) (S:=fun w'=>w'.cell? ⟨w2.heap.size+1,4,none⟩=some (.slice A4 F.length c4)/\Below w.heap.size w w') (ds:=[9]) #[false,false,false,false,false,false,false,false,false,false] (Z15) rfl rfl (⟨d4,below_drew1 HS4.out.below⟩) (fun hHeld=>?_)
     have HS5:=As.mk (HS4.out.next (below_drew1 (Below.refl _ _)));clear HS4 d4;generalize w4.drew=w5 at HS5 hHeld ⊢
     refine pI 0 (some 39) (bs 10 1) ?_
     refine pI 2 (some 41) (bs 10 5) ?_
     refine pI 3 (some 42) (bs 10 13) ?_
     refine pI 4 (some 43) (bs 10 29) ?_
     refine tI 1 (some 40) (bs 10 31) rfl (Z111) hHeld ?_
     refine tI 5 (some 44) (bs 10 63) rfl (by intro w' hS';have s0:=hS';have y0:=pw_cell_below hS'.2 x0;have y1:=pw_cell_below hS'.2 x1;have y2:=pw_cell_below hS'.2 x2;go_simp;with_reducible rfl) hHeld ?_
     refine one_ (i:=6) (N:=some 45) (bs 10 127) rfl rfl (Z15) (Z31) (fun K hK=>?_)
     refine value_ (w1:=w5.alloc (.cells #[.int .i64 x.f0,.int .i64 x.f1,.int .i64 x.f2] 165)) (v:=.slice (some ⟨w5.heap.size,0,none⟩) 1 1) (by rfl) rfl ?_ ?_
     ·first|(go_simp;done)|(go_simp;rfl)
     refine hK.out _ _ (⟨pw_cell_below (below_alloc (Below.refl _ _) _) hHeld.1,below_alloc hHeld.2 _⟩) (fun hHeld=>?_)
     clear hK K
     refine nI ?_
     refine one_ (i:=7) (N:=some 46) (bs 10 255) rfl rfl (Z15) (Z31) (fun K hK=>?_)
     refine Kd.R_append_step k165 (w0:=w) w.heap.size (by rfl) (.tmp 40) (.tmp 45) 23 165 (.agg #[.int .i64 0,.int .i64 0,.int .i64 0]) 24 rfl Tryz.underlying23 info_cl rfl (Z31) (Z1) (.slice A4 F.length c4) F x [.int .i64 x.f0,.int .i64 x.f1,.int .i64 x.f2] (fun _=>True) (fun _=>False) (by rfl) (by rfl) (k165_mkM _ _ _ x) (fun _ hk=>hk.elim) (fun _ _=>trivial) HS5.out.C HS5.out.below HS5.out.below.size (by have:=HLF.out;omega) ?_
     intro v1 w6 ho hb hg hat
     obtain⟨A',c',rfl⟩:=Kd.R_slice ho
     have HS6:=As.mk (fun(_:True)=>HS5.out.putC hb hg ho)
     have hk6:=blk_grown HS5.out.blk hg (Kd.R_ne HS5.out.C HS5.out.blk (Z31))
     refine hK.out _ _ ⟨cell_of hk6 rfl,hb⟩ (fun hHeld=>?_)
     clear hK K
     refine nI ?_
     refine pI 8 (some 47) (bs 10 511) ?_
     refine last_ (i:=9) (N:=none) (bs 10 1023) rfl rfl (Z15) (Z31) (fun K hK=>?_)
     have s0:=hHeld.1
     have z0:=frozen_of hk6 4
     refine skip_ (w1:=w6.setCell ⟨w2.heap.size+1,4,none⟩ (.slice A' (F++[x]).length c')) (by rfl) rfl ?_ ?_
     ·first|(go_simp;done)|(go_simp;rfl)
     refine hK.out _ _ ?_
     clear hK K
     refine done_ (Z15) ?_
     clear hHeld
     go_wp2
     go_roundg k1
     case measure=>omega
     case rel=>exact⟨i+1,A',c',Z67,Z110,Z110,⟨Z112⟩,⟨Z108⟩⟩
   ·have hcase:¬ ((i:Int)<C.length)\/((i:Int)<C.length/\¬ ((i:Int)<8)):=by omega
    have HE:As (C.take i=C.take 8):=⟨by
     by_cases h8:i=8
     ·rw[h8]
     ·rw[List.take_of_length_le (Z1),List.take_of_length_le (Z1)]⟩
    rw[HE.out]at HS
    have HCLi:(C.length:Int)≤9223372036854775807:=by have:=HCJ.out.1;omega
    clear hlt
    rcases hcase with h1|⟨h1,h2⟩
    all_goals
     go_wp2
     go_meet
     case rel=>exact⟨A4,c4,HS⟩
 case rest =>
  obtain⟨A4,c4,HS3⟩:=hcut
  go_upto_block 2 with fail
  go_cut [12] from 48 to 73 (fun v12 w'=>∃ A5 c5,As (SmW w w' (w2.heap.size+1) Ba none A4 A5 da 0 c4 c5 ⟨mL E,[],(C.take 8).filter okCb,(J.take 8).filter okJb⟩))
  case first =>
   go_wp2_with fail
   go_loopg [12] 8 (fun k v12 w'=>∃ (i:Nat) (A5:Option Addr) (c5:Nat),v12=.int .i64 i/\i≤8/\i≤J.length/\As (SmW w w' (w2.heap.size+1) Ba none A4 A5 da 0 c4 c5 ⟨mL E,[],(C.take 8).filter okCb,(J.take i).filter okJb⟩)/\As (8≤i+k))
   case atStart=>exact⟨0,none,0,rfl,Z1,Z1,HS3,⟨Z1⟩⟩
   case round =>
    clear HS3
    obtain⟨i,A5,c5,rfl,hi8,hil,HS,HM8⟩:=hrel
    by_cases hlt:i<J.length/\i<8
    ·obtain⟨k1,rfl⟩:∃ k1,gk=k1+1:=⟨gk-1,Z108⟩
     have hltI:(i:Int)<J.length:=Z1
     have hlt8:(i:Int)<8:=Z1
     obtain⟨B',hcut,hcutJ⟩:=cutJ (i:=i) HJ.out hc2 hlt.1
     have HCUT:=As.mk hcutJ
     obtain⟨ad,rfl,x0,x1⟩:=at_T108 HJ.out (i:Int) (Z1) (Z1)
     rw[Int.toNat_natCast]at x0 x1
     have hrd:rd_T108 J (i:Int)=J[i]:=by unfold rd_T108;rw[Int.toNat_natCast,List.getD_eq_getElem?_getD,List.getElem?_eq_getElem hlt.1];rfl
     rw[hrd]at x0 x1
     have htf:=take_filter okJb J hlt.1
     have HLT:=As.mk hlt
     have HC1:=As.mk hc2
     clear hcutJ hrd
     generalize J[i]=x at *
     clear hlt
     cases hok:okJb x with
     | false =>
      rw[hok,if_neg (Z31)]at htf
      have HTF:=As.mk htf
      clear htf
      go_wp2_with (go_at_call 88;refine(rightJ B' (c2-i) x _ (Kd.C_below HCUT.out HS.out.below) (Z109)).mono ?_;rw[hok];rintro e w4 ⟨rfl,hb⟩;have HS4:=As.mk (HS.out.next hb);clear hb HS)
      go_roundg k1
      case measure=>omega
      case rel=>exact⟨i+1,A5,c5,Z67,Z110,Z110,by rw[HTF.out];exact HS4,⟨Z108⟩⟩
     | true =>
      rw[hok,if_pos rfl]at htf
      have HTF:=As.mk htf
      clear htf
      go_wp2_with (go_at_call 88;refine(rightJ B' (c2-i) x _ (Kd.C_below HCUT.out HS.out.below) (Z109)).mono ?_;rw[hok];rintro e w4 ⟨rfl,hb⟩;have HS4:=As.mk (HS.out.next hb);clear hb HS)
      have d4:=cell_of (i:=5) HS4.out.blk rfl
      have HLF:As (((J.take i).filter okJb).length≤8):=⟨by have:=List.length_filter_le okJb (J.take i);rw[List.length_take]at this;omega⟩
      generalize hF:(J.take i).filter okJb=F at *
      refine start_ (n:=10) (S:=fun w'=>w'.cell? ⟨w2.heap.size+1,5,none⟩=some (.slice A5 F.length c5)/\Below w.heap.size w w') (ds:=[9]) #[false,false,false,false,false,false,false,false,false,false] (Z15) rfl rfl (⟨d4,below_drew1 HS4.out.below⟩) (fun hHeld=>?_)
      have HS5:=As.mk (HS4.out.next (below_drew1 (Below.refl _ _)));clear HS4 d4;generalize w4.drew=w5 at HS5 hHeld ⊢
      refine pI 0 (some 65) (bs 10 1) ?_
      refine pI 2 (some 67) (bs 10 5) ?_
      refine pI 3 (some 68) (bs 10 13) ?_
      refine pI 4 (some 69) (bs 10 29) ?_
      refine tI 1 (some 66) (bs 10 31) rfl (Z111) hHeld ?_
      refine tI 5 (some 70) (bs 10 63) rfl (by intro w' hS';have s0:=hS';have y0:=pw_cell_below hS'.2 x0;have y1:=pw_cell_below hS'.2 x1;go_simp;with_reducible rfl) hHeld ?_
      refine one_ (i:=6) (N:=some 71) (bs 10 127) rfl rfl (Z15) (Z31) (fun K hK=>?_)
      refine value_ (w1:=w5.alloc (.cells #[.int .i64 x.f0,.int .i64 x.f1] 108)) (v:=.slice (some ⟨w5.heap.size,0,none⟩) 1 1) (by rfl) rfl ?_ ?_
      ·first|(go_simp;done)|(go_simp;rfl)
      refine hK.out _ _ (⟨pw_cell_below (below_alloc (Below.refl _ _) _) hHeld.1,below_alloc hHeld.2 _⟩) (fun hHeld=>?_)
      clear hK K
      refine nI ?_
      refine one_ (i:=7) (N:=some 72) (bs 10 255) rfl rfl (Z15) (Z31) (fun K hK=>?_)
      refine Kd.R_append_step k108 (w0:=w) w.heap.size (by rfl) (.tmp 66) (.tmp 71) 24 108 (.agg #[.int .i64 0,.int .i64 0]) 16 rfl Tryz.underlying24 info_jo rfl (Z31) (Z1) (.slice A5 F.length c5) F x [.int .i64 x.f0,.int .i64 x.f1] (fun _=>True) (fun _=>False) (by rfl) (by rfl) (k108_mkM _ _ _ x) (fun _ hk=>hk.elim) (fun _ _=>trivial) HS5.out.J HS5.out.below HS5.out.below.size (by have:=HLF.out;omega) ?_
      intro v1 w6 ho hb hg hat
      obtain⟨A',c',rfl⟩:=Kd.R_slice ho
      have HS6:=As.mk (fun(_:True)=>HS5.out.putJ hb hg ho)
      have hk6:=blk_grown HS5.out.blk hg (Kd.R_ne HS5.out.J HS5.out.blk (Z31))
      refine hK.out _ _ ⟨cell_of hk6 rfl,hb⟩ (fun hHeld=>?_)
      clear hK K
      refine nI ?_
      refine pI 8 (some 73) (bs 10 511) ?_
      refine last_ (i:=9) (N:=none) (bs 10 1023) rfl rfl (Z15) (Z31) (fun K hK=>?_)
      have s0:=hHeld.1
      have z0:=frozen_of hk6 5
      refine skip_ (w1:=w6.setCell ⟨w2.heap.size+1,5,none⟩ (.slice A' (F++[x]).length c')) (by rfl) rfl ?_ ?_
      ·first|(go_simp;done)|(go_simp;rfl)
      refine hK.out _ _ ?_
      clear hK K
      refine done_ (Z15) ?_
      clear hHeld
      go_wp2
      go_roundg k1
      case measure=>omega
      case rel=>exact⟨i+1,A',c',Z67,Z110,Z110,⟨Z112⟩,⟨Z108⟩⟩
    ·have hcase:¬ ((i:Int)<J.length)\/((i:Int)<J.length/\¬ ((i:Int)<8)):=by omega
     have HE:As (J.take i=J.take 8):=⟨by
      by_cases h8:i=8
      ·rw[h8]
      ·rw[List.take_of_length_le (Z1),List.take_of_length_le (Z1)]⟩
     rw[HE.out]at HS
     have HCLi:(J.length:Int)≤9223372036854775807:=by have:=HCJ.out.2.1;omega
     clear hlt
     rcases hcase with h1|⟨h1,h2⟩
     all_goals
      go_wp2
      go_meet
      case rel=>exact⟨A5,c5,HS⟩
  case rest =>
   obtain⟨A5,c5,HS3⟩:=hcut
   go_upto_block 4 with fail
   go_cut [13] from 74 to 106 (fun v13 w'=>∃ A3 c3 Xs,Xs=someX (X.take 6) 0 []/\As (SmW w w' (w2.heap.size+1) Ba A3 A4 A5 da c3 c4 c5 ⟨mL E,Xs,(C.take 8).filter okCb,(J.take 8).filter okJb⟩))
   case first =>
    go_wp2_with fail
    go_loopg [13] 6 (fun k v13 w'=>∃ (i:Nat) (A3':Option Addr) (c3':Nat) (Xs:List S93),v13=.int .i64 i/\i≤6/\i≤X.length/\As (someX ((X.take 6).drop i) i Xs=someX (X.take 6) 0 [])/\As (Xs.length≤i)/\As (SmW w w' (w2.heap.size+1) Ba A3' A4 A5 da c3' c4 c5 ⟨mL E,Xs,(C.take 8).filter okCb,(J.take 8).filter okJb⟩)/\As (6≤i+k))
    case atStart=>exact⟨0,none,0,[],rfl,Z1,Z1,⟨rfl⟩,⟨Nat.le_refl _⟩,HS3,⟨Z1⟩⟩
    case round =>
     clear HS3
     obtain⟨i,A3',c3',Xs,rfl,hi6,hil,HF,HXL,HS,HM6⟩:=hrel
     by_cases hlt:i<X.length/\i<6
     ·obtain⟨k1,rfl⟩:∃ k1,gk=k1+1:=⟨gk-1,by have:=HM6.out;omega⟩
      have hltI:(i:Int)<X.length:=Z1
      have hlt6:(i:Int)<6:=Z1
      have HS5:=As.mk (HS.out.next (below_drew1 (Below.refl _ _)))
      obtain⟨ad,rfl,x0,x1⟩:=at_T93 (Kd.C_below HX.out HS5.out.below) (i:Int) (Z1) (Z1)
      rw[Int.toNat_natCast]at x0 x1
      have hrd:rd_T93 X (i:Int)=X[i]:=by unfold rd_T93;rw[Int.toNat_natCast,List.getD_eq_getElem?_getD,List.getElem?_eq_getElem hlt.1];rfl
      rw[hrd]at x0 x1
      have hdr:(X.take 6).drop i=X[i]::(X.take 6).drop (i+1):=by
       have h1:i<(X.take 6).length:=Z8
       rw[List.drop_eq_getElem_cons h1,List.getElem_take]
      have hF:=HF.out
      rw[hdr]at hF
      replace hF:=(someX_cons _ _ _ _).symm.trans hF
      have HF':=As.mk hF
      have HLT:=As.mk hlt
      clear hdr hrd hF HF
      generalize X[i]=x at *
      clear hlt
      have HRX:=As.mk (Kd.R_reads' HS5.out.X).2.2
      have d3:=cell_of (i:=3) HS5.out.blk rfl
      clear HS
      go_wp2_with fail
      refine start_ (n:=15) (S:=fun w'=>Below wr.drew.heap.size wr.drew w') (ds:=[]) #[false,false,false,false,false,false,false,false,false,false,false,false,false,false,false] (Z15) rfl rfl (Below.refl _ _) (fun hHeld=>?_)
      generalize wr.drew=w5 at HS5 HRX d3 x0 x1 hHeld ⊢
      refine pI 1 (some 85) (bs 15 2) ?_
      refine pI 4 (some 88) (bs 15 18) ?_
      refine pI 5 (some 89) (bs 15 50) ?_
      refine pI 6 (some 90) (bs 15 114) ?_
      refine pI 7 (some 91) (bs 15 242) ?_
      refine pI 8 (some 92) (bs 15 498) ?_
      refine pI 9 (some 93) (bs 15 1010) ?_
      refine tI 2 (some 86) (bs 15 1014) rfl (by intro w' hS';have s0:=hS';have s3:=pw_cell_below hS' d3;go_simp;with_reducible rfl) hHeld ?_
      refine tI 10 (some 94) (bs 15 2038) rfl (by intro w' hS';have s0:=hS';have y1:=pw_cell_below hS' x1;go_simp;with_reducible rfl) hHeld ?_
      refine pI 11 (some 95) (bs 15 4086) ?_
      have HS0:=As.mk hHeld
      clear hHeld
      refine join_ 2 #[true,true,true,true,true,true,true,true,true,true,true,true,true,false,false] (fun(q:Value × Value × Nat)=>[(84,q.1),(87,q.2.1),(96,.slice (some ⟨q.2.2,0,none⟩) 1 1)])
       (fun(q:Value × Value × Nat) W=>Below w5.heap.size w5 W/\Kd.R k93 93 W w5.heap.size (fun _=>True) q.2.1 Xs/\W.heap[q.2.2]?=some (.cells #[.int .i64 (wrap64 (1000+(i:Int))),.string x.f1] 93 (0,0))) ?_ ?_
      rotate_left
      ·intro hcont
       refine two_ (i:=0) (j:=12) (Ni:=some 84) (Nj:=some 96) #[true,true,true,false,true,true,true,true,true,true,true,true,false,false,false] #[false,true,true,false,true,true,true,true,true,true,true,true,true,false,false] rfl rfl rfl rfl (Z15) (Z31) (Z31) (fun K hK=>?_) (fun K hK=>?_)
       ·refine value_ (w1:=w5.alloc (.cells #[] 93)) (v:=.slice (some ⟨w5.heap.size,0,none⟩) 0 0) (by rfl) rfl ?_ ?_
        ·first|(go_simp;done)|(go_simp;rfl)
        refine hK.out _ _ (below_alloc HS0.out _) (fun hHeld=>?_)
        clear hK K
        refine nI ?_
        obtain⟨w5s,hw5s⟩:∃ zz,zz=w5.alloc (.cells #[] 93):=⟨_,rfl⟩
        have hq:Below w5.heap.size w5 w5s:=hw5s ▸ below_alloc (Below.refl _ _) _
        have HOw5s:As (Kd.R k93 93 w5s w5.heap.size (fun _=>True) (.slice (some ⟨w5.heap.size,0,none⟩) 0 0) []):=As.mk (by rw[hw5s];exact⟨fun _ _=>trivial,[],World.ownsRow_made w5 #[] 0 (HS0.out).size (Nat.zero_le _) (by simp),Reps.none _ _⟩)
        have HG2:=As.mk (show w5.heap.size<w5s.heap.size from by rw[hw5s];simp)
        have HSw5s:=As.mk (bt_ HS0.out hq)
        rw[←hw5s]
        clear hq hw5s hHeld
        refine two_ (i:=3) (j:=12) (Ni:=some 87) (Nj:=some 96) #[true,true,true,true,true,true,true,true,true,true,true,true,false,false,false] #[true,true,true,false,true,true,true,true,true,true,true,true,true,false,false] rfl rfl rfl rfl (Z15) (Z31) (Z31) (fun K hK=>?_) (fun K hK=>?_)
        ·refine Kd.R_append_rows_step k93 (Rr:=k93.K w5s) (w0:=w5s) w5.heap.size (by rfl) (.tmp 84) (.tmp 86) 25 93 (.agg #[.int .i64 0,.string ⟨#[]⟩]) 24 rfl Tryz.underlying25 info_sp rfl (Z31) (Z1) (.slice (some ⟨w5.heap.size,0,none⟩) 0 0) [] Xs A3' Xs.length c3' (fun _=>True) (fun _=>False) (by rfl) (by rfl) HOw5s.out ((Kd.C_below HRX.out HSw5s.out).imp_ (Below.refl _ _) (fun _ _ h=>h)) (fun x cs hk=>Z113) (fun _ hk=>hk.elim) (fun _ _=>trivial) (Below.refl _ _) (HSw5s.out).size (Z114) ?_
         intro v9 w5sp ho hb hg hat
         have HSw5sp:=As.mk (HSw5s.out.trans hb)
         rw[List.nil_append]at ho
         have HOw5sp:=As.mk ho
         refine hK.out _ _ HSw5sp.out (fun hHeld=>?_)
         clear hK K hHeld ho hb hg hat
         refine nI ?_
         refine one_ (i:=12) (N:=some 96) (bs 15 8191) rfl rfl (Z15) (Z31) (fun K hK=>?_)
         refine value_ (w1:=w5sp.alloc (.cells #[.int .i64 (wrap64 (1000+(i:Int))),.string x.f1] 93)) (v:=.slice (some ⟨w5sp.heap.size,0,none⟩) 1 1) (by rfl) rfl ?_ ?_
         ·first|(go_simp;done)|(go_simp;rfl)
         refine hK.out _ _ (below_alloc HSw5sp.out _) (fun hHeld=>?_)
         clear hK K
         refine nI ?_
         obtain⟨w5spm,hw5spm⟩:∃ zz,zz=w5sp.alloc (.cells #[.int .i64 (wrap64 (1000+(i:Int))),.string x.f1] 93):=⟨_,rfl⟩
         have hq:Below w5sp.heap.size w5sp w5spm:=hw5spm ▸ below_alloc (Below.refl _ _) _
         have HC6:=As.mk (show w5spm.heap[w5sp.heap.size]?=some (.cells #[.int .i64 (wrap64 (1000+(i:Int))),.string x.f1] 93 (0,0)) from by rw[hw5spm];exact(Go.MapKept.heap_alloc w5sp _).1)
         have HSw5spm:=As.mk (bt_ HSw5sp.out hq)
         have HOw5spm:=As.mk (Kd.R_below HOw5sp.out hq)
         rw[←hw5spm]
         clear hq hw5spm hHeld
         exact norm_ (Z106) (hcont ⟨.slice (some ⟨w5.heap.size,0,none⟩) 0 0,v9,w5sp.heap.size⟩ _ ⟨HSw5spm.out,HOw5spm.out,HC6.out⟩)
        ·refine value_ (w1:=w5s.alloc (.cells #[.int .i64 (wrap64 (1000+(i:Int))),.string x.f1] 93)) (v:=.slice (some ⟨w5s.heap.size,0,none⟩) 1 1) (by rfl) rfl ?_ ?_
         ·first|(go_simp;done)|(go_simp;rfl)
         refine hK.out _ _ (below_alloc HSw5s.out _) (fun hHeld=>?_)
         clear hK K
         refine nI ?_
         obtain⟨w5sm,hw5sm⟩:∃ zz,zz=w5s.alloc (.cells #[.int .i64 (wrap64 (1000+(i:Int))),.string x.f1] 93):=⟨_,rfl⟩
         have HNE6:=As.mk (show w5s.heap.size≠w5.heap.size from fun e=>by have h2:=HG2.out;omega)
         have hq:Below w5s.heap.size w5s w5sm:=hw5sm ▸ below_alloc (Below.refl _ _) _
         have HC6:=As.mk (show w5sm.heap[w5s.heap.size]?=some (.cells #[.int .i64 (wrap64 (1000+(i:Int))),.string x.f1] 93 (0,0)) from by rw[hw5sm];exact(Go.MapKept.heap_alloc w5s _).1)
         have HSw5sm:=As.mk (bt_ HSw5s.out hq)
         have HOw5sm:=As.mk (Kd.R_below HOw5s.out hq)
         rw[←hw5sm]
         clear hq hw5sm hHeld
         refine one_ (i:=3) (N:=some 87) (bs 15 8191) rfl rfl (Z15) (Z31) (fun K hK=>?_)
         refine Kd.R_append_rows_step k93 (Rr:=k93.K w5sm) (w0:=w5sm) w5.heap.size (by rfl) (.tmp 84) (.tmp 86) 25 93 (.agg #[.int .i64 0,.string ⟨#[]⟩]) 24 rfl Tryz.underlying25 info_sp rfl (Z31) (Z1) (.slice (some ⟨w5.heap.size,0,none⟩) 0 0) [] Xs A3' Xs.length c3' (fun _=>True) (fun _=>False) (by rfl) (by rfl) HOw5sm.out ((Kd.C_below HRX.out HSw5sm.out).imp_ (Below.refl _ _) (fun _ _ h=>h)) (fun x cs hk=>Z113) (fun _ hk=>hk.elim) (fun _ _=>trivial) (Below.refl _ _) (HSw5sm.out).size (Z114) ?_
         intro v9 w5smp ho hb hg hat
         have HSw5smp:=As.mk (HSw5sm.out.trans hb)
         rw[List.nil_append]at ho
         have HOw5smp:=As.mk ho
         have HDw5smp:=As.mk (blk_grown HC6.out hg (by have h1:=HNE6.out;simp only[Value.ownBlock];intro he;injection he with he;exact h1 he))
         refine hK.out _ _ HSw5smp.out (fun hHeld=>?_)
         clear hK K hHeld ho hb hg hat
         refine nI ?_
         exact norm_ (Z106) (hcont ⟨.slice (some ⟨w5.heap.size,0,none⟩) 0 0,v9,w5s.heap.size⟩ _ ⟨HSw5smp.out,HOw5smp.out,HDw5smp.out⟩)
       ·refine value_ (w1:=w5.alloc (.cells #[.int .i64 (wrap64 (1000+(i:Int))),.string x.f1] 93)) (v:=.slice (some ⟨w5.heap.size,0,none⟩) 1 1) (by rfl) rfl ?_ ?_
        ·first|(go_simp;done)|(go_simp;rfl)
        refine hK.out _ _ (below_alloc HS0.out _) (fun hHeld=>?_)
        clear hK K
        refine nI ?_
        obtain⟨w5m,hw5m⟩:∃ zz,zz=w5.alloc (.cells #[.int .i64 (wrap64 (1000+(i:Int))),.string x.f1] 93):=⟨_,rfl⟩
        have hq:Below w5.heap.size w5 w5m:=hw5m ▸ below_alloc (Below.refl _ _) _
        have HC6:=As.mk (show w5m.heap[w5.heap.size]?=some (.cells #[.int .i64 (wrap64 (1000+(i:Int))),.string x.f1] 93 (0,0)) from by rw[hw5m];exact(Go.MapKept.heap_alloc w5 _).1)
        have HSw5m:=As.mk (bt_ HS0.out hq)
        rw[←hw5m]
        clear hq hw5m hHeld
        refine one_ (i:=0) (N:=some 84) (bs 15 8183) rfl rfl (Z15) (Z31) (fun K hK=>?_)
        refine value_ (w1:=w5m.alloc (.cells #[] 93)) (v:=.slice (some ⟨w5m.heap.size,0,none⟩) 0 0) (by rfl) rfl ?_ ?_
        ·first|(go_simp;done)|(go_simp;rfl)
        refine hK.out _ _ (below_alloc HSw5m.out _) (fun hHeld=>?_)
        clear hK K
        refine nI ?_
        obtain⟨w5ms,hw5ms⟩:∃ zz,zz=w5m.alloc (.cells #[] 93):=⟨_,rfl⟩
        have HNE6:=As.mk (show w5.heap.size≠w5m.heap.size from fun e=>by have h2:=blk_lt HC6.out;omega)
        have hq:Below w5m.heap.size w5m w5ms:=hw5ms ▸ below_alloc (Below.refl _ _) _
        have HOw5ms:As (Kd.R k93 93 w5ms w5.heap.size (fun _=>True) (.slice (some ⟨w5m.heap.size,0,none⟩) 0 0) []):=As.mk (by rw[hw5ms];exact⟨fun _ _=>trivial,[],World.ownsRow_made w5m #[] 0 (HSw5m.out).size (Nat.zero_le _) (by simp),Reps.none _ _⟩)
        have HSw5ms:=As.mk (bt_ HSw5m.out hq)
        have HDw5ms:=As.mk ((hq.block _ (blk_lt HC6.out)).trans HC6.out)
        rw[←hw5ms]
        clear hq hw5ms hHeld
        refine one_ (i:=3) (N:=some 87) (bs 15 8191) rfl rfl (Z15) (Z31) (fun K hK=>?_)
        refine Kd.R_append_rows_step k93 (Rr:=k93.K w5ms) (w0:=w5ms) w5.heap.size (by rfl) (.tmp 84) (.tmp 86) 25 93 (.agg #[.int .i64 0,.string ⟨#[]⟩]) 24 rfl Tryz.underlying25 info_sp rfl (Z31) (Z1) (.slice (some ⟨w5m.heap.size,0,none⟩) 0 0) [] Xs A3' Xs.length c3' (fun _=>True) (fun _=>False) (by rfl) (by rfl) HOw5ms.out ((Kd.C_below HRX.out HSw5ms.out).imp_ (Below.refl _ _) (fun _ _ h=>h)) (fun x cs hk=>Z113) (fun _ hk=>hk.elim) (fun _ _=>trivial) (Below.refl _ _) (HSw5ms.out).size (Z114) ?_
        intro v9 w5msp ho hb hg hat
        have HSw5msp:=As.mk (HSw5ms.out.trans hb)
        rw[List.nil_append]at ho
        have HOw5msp:=As.mk ho
        have HDw5msp:=As.mk (blk_grown HDw5ms.out hg (by have h1:=HNE6.out;simp only[Value.ownBlock];intro he;injection he with he;exact h1 he))
        refine hK.out _ _ HSw5msp.out (fun hHeld=>?_)
        clear hK K hHeld ho hb hg hat
        refine nI ?_
        exact norm_ (Z106) (hcont ⟨.slice (some ⟨w5m.heap.size,0,none⟩) 0 0,v9,w5.heap.size⟩ _ ⟨HSw5msp.out,HOw5msp.out,HDw5msp.out⟩)
      ·rintro⟨V2,v9,g6⟩ w8 ⟨hS8,hO8,hC8⟩
       simp only at hO8 hC8
       refine norm_ (a':=?_) ?_ ?_
       rotate_left
       ·(simp only[Act.put,putAll,List.setIfInBounds_toArray,List.set_cons_zero,List.set_cons_succ];rfl)
       refine one_ (i:=13) (N:=some 97) (bs 15 16383) rfl rfl (Z15) (Z31) (fun K hK=>?_)
       refine Kd.R_append_rows_step k93 (Rr:=k93.K w8) (w0:=w8) w5.heap.size (by rfl) (.tmp 87) (.tmp 96) 25 93 (.agg #[.int .i64 0,.string ⟨#[]⟩]) 24 rfl Tryz.underlying25 info_sp rfl (Z31) (Z1) v9 Xs [(⟨wrap64 (1000+(i:Int)),x.f1⟩:S93)] (some ⟨g6,0,none⟩) 1 1 (fun _=>True) (fun _=>False) (by rfl) (by rfl) hO8 ((C_blk_sp hC8).imp_ (Below.refl _ _) (fun _ _ h=>h)) (fun x cs hk=>Z113) (fun _ hk=>hk.elim) (fun _ _=>trivial) (Below.refl _ _) hS8.size (by have:=HXL.out;omega) ?_
       intro v10 w10 ho hb hg hat
       have hS10:=hS8.trans hb
       obtain⟨A',c',hv⟩:=Kd.R_slice ho
       obtain⟨m,hm⟩:∃ m,m=(Xs++[(⟨wrap64 (1000+(i:Int)),x.f1⟩:S93)]).length:=⟨_,rfl⟩
       rw[←hm]at hv
       subst hv
       have HMM:=As.mk hm
       clear hm
       refine hK.out _ _ hS10 (fun _=>?_)
       clear hK K
       refine nI ?_
       refine pI 14 (some 14) (bs 15 32767) ?_
       refine done_ (Z15) ?_
       have HS10:=As.mk (HS5.out.next hS10)
       have HR10:=As.mk (Kd.R_lower ho (HS5.out.below.size))
       clear ho hb hg hat hS8 hO8 hC8 hS10 HS5 HRX d3 HS0
       have hyl:(Xs++[(⟨wrap64 (1000+(i:Int)),x.f1⟩:S93)]).length≤7:=by have:=HXL.out;rw[List.length_append];simp;omega
       have HYL:=As.mk hyl
       have hy:(⟨wrap64 (1000+(i:Int)),x.f1⟩:S93)=(⟨1000+(i:Int),x.f1⟩:S93):=by rw[w64 (Z1) (Z1)]
       have HY:=As.mk hy
       clear hyl hy
       obtain⟨Ys,hYs⟩:∃ Ys,Ys=Xs++[(⟨wrap64 (1000+(i:Int)),x.f1⟩:S93)]:=⟨_,rfl⟩
       have HYS:=As.mk hYs
       rw[←hYs]at HR10 HYL HMM
       clear hYs
       have HCK:=As.mk (Mk.check_any' A' c' Ys w10 (Kd.R_reads' HR10.out).2.2 (by have h1:=(Kd.R_reads' HR10.out).2.1;have h2:=HMM.out;omega) (by have:=HYL.out;omega))
       rw[←HMM.out]at HCK
       obtain⟨q,hq⟩:∃ q,q=(Mk.newP Ys).2:=⟨_,rfl⟩
       obtain⟨q1,hq1⟩:∃ q1,q1=(Mk.newP Ys).1:=⟨_,rfl⟩
       rw[←hq,←hq1]at HCK
       have HQ:=As.mk hq
       have hqq:q=0\/q≠0:=Z1
       clear hq hq1
       rcases hqq with rfl|hqq
       ·go_wp2_with (go_at_call 89;refine HCK.out.mono ?_;rintro e w11 ⟨rfl,⟨⟨n,hw⟩⟩⟩;have hb:=pw_below_drewN (Below.refl w10.heap.size w10) n;rw[←hw]at hb;have HS11:=As.mk (HS10.out.next hb);have HR11:=As.mk (Kd.R_below HR10.out hb);clear hb hw HS10 HR10 HCK;have d3:=cell_of (i:=3) HS11.out.blk rfl;have z3:=frozen_of HS11.out.blk 3)
        go_roundg k1
        case measure=>omega
        case rel=>exact⟨i+1,A',c',Ys,Z67,Z110,Z110,⟨by have h:=HF'.out;rw[←HY.out,←HYS.out,if_pos HQ.out.symm]at h;exact h⟩,⟨by have:=HXL.out;rw[HYS.out,List.length_append];simp;omega⟩,⟨by have e:=HMM.out;subst e;exact HS11.out.putX HR11.out⟩,⟨by have:=HM6.out;omega⟩⟩
       ·have hq0:(q==0)=false:=by simpa using hqq
        have HQQ:=As.mk hqq
        clear hqq
        go_wp2_with (go_at_call 89;refine HCK.out.mono ?_;rintro e w11 ⟨rfl,⟨⟨n,hw⟩⟩⟩;have hb:=pw_below_drewN (Below.refl w10.heap.size w10) n;rw[←hw]at hb;have HS11:=As.mk (HS10.out.next hb);clear hb hw HS10 HR10 HCK)
        go_roundg k1
        case measure=>omega
        case rel=>exact⟨i+1,A3',c3',Xs,Z67,Z110,Z110,⟨by have h:=HF'.out;rw[←HY.out,←HYS.out,if_neg (fun h=>HQQ.out (HQ.out.trans h))]at h;exact h⟩,⟨by have:=HXL.out;omega⟩,HS11,⟨by have:=HM6.out;omega⟩⟩
     ·have hcase:¬ ((i:Int)<X.length)\/((i:Int)<X.length/\¬ ((i:Int)<6)):=by omega
      have HE:As (Xs=someX (X.take 6) 0 []):=⟨by
       have h:=HF.out
       rw[List.drop_eq_nil_of_le (Z8)]at h
       exact h⟩
      have HXi:(X.length:Int)≤9223372036854775807:=by have:=HCJ.out.2.2;omega
      clear hlt HF
      rcases hcase with h1|⟨h1,h2⟩
      all_goals
       go_wp2
       go_meet
       case rel=>exact⟨A3',c3',Xs,HE.out,HS⟩
   case rest =>
    obtain⟨A3,c3,Xs,hXs,HS⟩:=hcut
    have HXS:=As.mk hXs
    have HV:=As.mk HS.out
    clear hXs
    have d0:=cell_of (i:=0) HS.out.blk rfl
    have d1:=cell_of (i:=1) HS.out.blk rfl
    have d2:=cell_of (i:=2) HS.out.blk rfl
    have d3:=cell_of (i:=3) HS.out.blk rfl
    have d4:=cell_of (i:=4) HS.out.blk rfl
    have d5:=cell_of (i:=5) HS.out.blk rfl
    have r0:=cell_of (i:=0) HS.out.res rfl
    have r1:=cell_of (i:=1) HS.out.res rfl
    have r2:=cell_of (i:=2) HS.out.res rfl
    have r3:=cell_of (i:=3) HS.out.res rfl
    have r4:=cell_of (i:=4) HS.out.res rfl
    have r5:=cell_of (i:=5) HS.out.res rfl
    have z0:=frozen_of HS.out.res 0
    have z1:=frozen_of HS.out.res 1
    have z2:=frozen_of HS.out.res 2
    have z3:=frozen_of HS.out.res 3
    have z4:=frozen_of HS.out.res 4
    have z5:=frozen_of HS.out.res 5
    have HSS:=As.mk (show (⟨mL E,Xs,(C.take 8).filter okCb,(J.take 8).filter okJb⟩:Vc.Sp)=someS L C J X from by unfold someS;rw[HXS.out];rw[HM.out];rfl)
    generalize hCC:(C.take 8).filter okCb=CC at *
    generalize hJJ:(J.take 8).filter okJb=JJ at *
    clear hCC hJJ HM HXS
    go_wp2
    have hfin:=HV.out.fin (.bool false) (.slice Ba (mL E).length da) (.slice none 0 0) (.slice A3 Xs.length c3) (.slice A4 CC.length c4) (.slice A5 JJ.length c5)
    refine bodyPost_ret (v:=.agg #[.bool false,.slice Ba (mL E).length da,.slice none 0 0,.slice A3 Xs.length c3,.slice A4 CC.length c4,.slice A5 JJ.length c5]) ?_ rfl ⟨Ba,A3,A4,A5,da,c3,c4,c5,by rw[←HSS.out];rfl,by rw[←HSS.out];exact hfin.1,hfin.2⟩
    clear hfin
    simp only[results,show Tryz.f51.results=#[.cell 8 95] from rfl]
    first|(go_simp;done)|(go_simp;rfl)
end Go.Proofs.YtkffhgiiejbnaaaGreat.Rt
