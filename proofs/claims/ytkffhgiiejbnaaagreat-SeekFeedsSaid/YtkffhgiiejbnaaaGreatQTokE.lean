import Derived.Test.YtkffhgiiejbnaaaGreatQTokB
import Derived.Test.YtkffhgiiejbnaaaGreatQTokD
set_option maxRecDepth 100000
set_option maxHeartbeats 1000000
set_option linter.unusedVariables false
set_option linter.unusedSimpArgs false
namespace Go.Proofs.YtkffhgiiejbnaaaGreat.Tk
open Go.RowKit YtkffhgiiejbnaaaGreatW.PrintWords YtkffhgiiejbnaaaGreatW.PrintLast YtkffhgiiejbnaaaGreatW.PrintMore Rf Aid Mp Hp
attribute [local go_sem] Aid.max_two Aid.min_two min2_mn max2_mx
theorem byte_conv (i:Nat) (hi:i<256) (W:World):(convert 109 9 (.slice (some ⟨W.heap.size,0,none⟩) 1 1)).run Tryz.prog (W.alloc (.cells #[.int .u8 (i:Int)] 5))=.ok (.string (byteE i).f0) (W.alloc (.cells #[.int .u8 (i:Int)] 5)):=by
 have ho:(W.alloc (.cells #[.int .u8 (i:Int)] 5)).ownsRow W.heap.size 5 1 (.slice (some ⟨W.heap.size,0,none⟩) 1 1) 1 (nums .u8 [(i:Int)]):=own_lit W W.heap.size 5 .u8 [(i:Int)] (Nat.le_refl _) (by simp)
 have:=own_string (P:=Tryz.prog) (src:=109) (dst:=9) Tryz.underlying109 Tryz.underlying5 Tryz.underlying9 ho
 rw[this]
 congr 2
theorem begin_any (w:World):Calls Tryz.prog 171 #[] w fun e w'=>e=.returned (.pointer (some ⟨w.heap.size+2,0,none⟩))/\(∃ v,TabRaw w' w.heap.size (w.heap.size+2) v w.heap.size (w.heap.size+1) 1 (byteL 256) (byteL 256) [])/\Below w.heap.size w w':=by
 have hmm:=@run_makeMap Tryz.prog
 go_enter Tryz.func171,Tryz.ntmps171
 go_wp2_with fail
 have HO0:=As.mk (begin0 w)
 have HB0:=As.mk (below_alloc (below_alloc (below_alloc (Below.refl w.heap.size w) (.map #[] 0)) (.map #[] 0)) (.cells #[.slice none 0 0,.map (some w.heap.size),.map (some (w.heap.size+1)),.int .i64 1] 227))
 clear hmm
 simp only[Nat.add_assoc,Nat.reduceAdd]at HO0 HB0 ⊢
 generalize ((w.alloc (.map #[] 0)).alloc (.map #[] 0)).alloc (.cells #[.slice none 0 0,.map (some w.heap.size),.map (some (w.heap.size+1)),.int .i64 1] 227)=W0 at HO0 HB0 ⊢
 go_loopg [8] 256 (fun k v w'=>∃ (i:Nat) (sv:Value) (W:World),v=.int .i64 i/\i≤256/\As (256-i≤k)/\As (W=w')/\As (TabRaw w' w.heap.size (w.heap.size+2) sv w.heap.size (w.heap.size+1) 1 (byteL i) (byteL i) [])/\As (Below w.heap.size w w'))
 case atStart=>exact⟨0,.slice none 0 0,W0,rfl,Nat.zero_le _,⟨Z1⟩,⟨rfl⟩,HO0,HB0⟩
 case round =>
  clear HO0 HB0
  obtain⟨i,sv,W,rfl,hi,HK,HW,HO,HB⟩:=hrel
  have hW:=HW.out
  subst hW
  clear HW
  by_cases hlt:i<256
  ·obtain⟨k1,rfl⟩:∃ k1,gk=k1+1:=⟨gk-1,Z65⟩
   have hltI:(i:Int)<256:=Z1
   have hbc:=byte_conv i hlt
   obtain⟨A,n,c,rfl⟩:∃ A n c,sv=.slice A n c:=by obtain⟨A,c,h⟩:=Kd.R_slice HO.out.rows;exact⟨A,_,c,h⟩
   have c0:=HO.out.c0
   have c1:=HO.out.c1
   have hlp:w.heap.size+2<W.heap.size:=blk_lt HO.out.blk
   have HR:=As.mk HO.out.rows
   have HOa:=As.mk (HO.out.below (below_alloc (Below.refl _ _) (.cells #[.int .u8 (i:Int)] 5)))
   go_wp2_with ((with_reducible refine gate_builtin (b:=.append) (xs:=#[.tmp 19,.tmp 23]) rfl ?_);at_builtin;refine Kd.R_append kEnt (w0:=w) w.heap.size rfl (.tmp 19) (.tmp 23) 224 223 (.agg #[.string ⟨#[]⟩,.int .i64 0,.int .i64 0]) 32 rfl Tryz.underlying224 info_ent rfl (Z31) (Z1) (.slice A n c) (byteL i) (byteE i) [.string (byteE i).f0,.int .i64 (-1),.int .i64 (-1)] (fun _=>True) (fun _=>False) rfl ?aX ?aP (fun _ hk=>hk.elim) ?aF ?aO ?aB ?aS ?aL ?_;(case aX=>exact Z66);(case aP=>exact kEnt_mkM _ _ _ (byteE i));(case aF=>exact Z32);(case aO=>exact(by(with_reducible repeat(first|apply Kd.R_alloc|apply Kd.R_drewN|apply Kd.R_drew));exact HR.out));(case aB=>exact(Z20));(case aS=>exact Z177);(case aL=>(rw[byteL_len];omega));intro v1 w1 ho hb hg hat;have hk1:=blk_grown HOa.out.blk hg (Kd.R_ne HOa.out.rows HOa.out.blk (Z31));obtain⟨A1,n1,c1',rfl⟩:∃ A1 n1 c1',v1=.slice A1 n1 c1':=(by obtain⟨A1,c1',h⟩:=Kd.R_slice ho;exact⟨A1,_,c1',h⟩);have z0:w1.cell? ⟨w.heap.size+2,0,none⟩=some (.slice A n c):=(by simp only[World.cell?,hk1];rfl);have z1:w1.cell? ⟨w.heap.size+2,1,none⟩=some (.map (some w.heap.size)):=(by simp only[World.cell?,hk1];rfl);have y0:=blk_frozen hk1 0;have HT:=As.mk (HOa.out.told hg ho);clear hk1 HOa;obtain⟨w3,hr3,hm3,hb3⟩:=update_run (P:=Tryz.prog) (E:=encStr) (mty:=189) Tryz.underlying189 Tryz.underlying9 HT.out.bytes (byteE i).f0 (.int .i64 (i:Int));simp only[encStr]at hr3;have HM3:=As.mk hm3;have HB3:=As.mk hb3;clear hm3 hb3;have HO_:=As.mk ho;have HB_:=As.mk hb;clear HR HB ho hb hg hat;have HR:=HO_;have HB:=HB_;clear HO_ HB_)
   have HMX:=HM3.out
   have hlen:((byteL i).length:Int)=i:=by rw[byteL_len]
   rw[←hlen,put_bytl _ _ (idxB_byteL i hlt),←byteL_succ]at HMX
   have hT4:=HT.out.putB HB3.out HMX
   go_roundg k1
   case measure=>omega
   case rel =>
    rw[←byteL_succ]at hT4
    exact⟨i+1,_,_,Z67,Z1,⟨Z65⟩,⟨rfl⟩,⟨hT4⟩,⟨(HB.out.setCell (p:=⟨w.heap.size+2,0,none⟩) (Z68) _).trans (HB3.out.below (Nat.le_refl _))⟩⟩
  ·obtain rfl:i=256:=by omega
   go_wp2
   go_ret
   exact⟨rfl,⟨_,HO.out⟩,HB.out⟩
end Go.Proofs.YtkffhgiiejbnaaaGreat.Tk
namespace Go.Proofs.YtkffhgiiejbnaaaGreat.Tk
open Go.RowKit YtkffhgiiejbnaaaGreatW.PrintWords YtkffhgiiejbnaaaGreatW.PrintLast YtkffhgiiejbnaaaGreatW.PrintMore Rf Aid Mp Hp
attribute [local go_sem] Aid.max_two Aid.min_two min2_mn max2_mx
structure TabOwn (w:World) (base p bm pm:Nat) (E:List Ent):Prop where
 good:Good E
 raw:∃ A c lg,0≤lg/\lg≤64/\TabRaw w base p (.slice A E.length c) bm pm lg E E (E.drop 256)
theorem TabOwn.below {w w':World} {base p bm pm:Nat} {E:List Ent} (h:TabOwn w base p bm pm E) (hb:Below w.heap.size w w'):TabOwn w' base p bm pm E:=by
 obtain⟨A,c,lg,h1,h2,h3⟩:=h.raw
 exact⟨h.good,A,c,lg,h1,h2,h3.below hb⟩
theorem TabOwn.at_ {w:World} {base p bm pm:Nat} {E:List Ent} (h:TabOwn w base p bm pm E):TabAt w p E:=by
 obtain⟨A,c,lg,h1,h2,h3⟩:=h.raw
 obtain⟨_,hc,hC⟩:=Kd.R_reads' h3.rows
 exact⟨h.good.many,h.good.small,⟨A,c,h3.c0,hc,hC⟩,⟨bm,h3.c1,h3.bytes⟩,⟨pm,h3.c2,h3.pairs⟩⟩
theorem pairl_snoc (M:List Ent) (x:Ent):pairl (M++[x])=pairl M++[((x.f1,x.f2),.int .i64 ((256+M.length:Nat):Int))]:=by simp[pairl,List.zipIdx_append]
theorem has_is {p:Nat} {E:List Ent} {A:Option Addr} {c:Nat} {w:World} (id:Int) (hl:w.cell? ⟨p,0,none⟩=some (.slice A E.length c)):Calls Tryz.prog 135 #[.pointer (some ⟨p,0,none⟩),.int .i64 id] w fun e w'=>e=.returned (.bool (hasE E id))/\w=w':=has_raw p E.length c A id w hl
theorem add_has {w:World} {base p bm pm:Nat} {E:List Ent} (h:TabOwn w base p bm pm E) (a b:Int) (hc:¬ (hasE E a=true/\hasE E b=true)) :
  Calls Tryz.prog 170 #[.pointer (some ⟨p,0,none⟩),.agg #[.int .i64 a,.int .i64 b]] w fun e w'=>e=.returned (.tuple #[.int .i64 0,.int .i64 4])/\Below w.heap.size w w':=by
 obtain⟨A,c,lg,_,_,hr⟩:=h.raw
 have c0:=pw_cell_below (below_alloc (Below.refl w.heap.size w) (.cells #[.int .i64 a,.int .i64 b] 91)) hr.c0
 have HA:=As.mk (has_is a c0)
 have HB:=As.mk (has_is b c0)
 clear c0 hr h
 cases h1:hasE E a with
 | false =>
  rw[h1]at HA
  clear h1 hc HB
  go_enter Tryz.func170,Tryz.ntmps170
  go_wp2_with fail
  refine HA.out.mono ?_
  rintro e w' ⟨rfl,rfl⟩
  go_wp2
  go_ret2
  exact⟨rfl,below_alloc (Below.refl _ _) _⟩
 | true =>
  have h2:hasE E b=false:=by
   cases h2:hasE E b with
   | false=>rfl
   | true=>exact absurd ⟨h1,h2⟩ hc
  rw[h1]at HA
  rw[h2]at HB
  clear h1 h2 hc
  go_enter Tryz.func170,Tryz.ntmps170
  go_wp2_with fail
  refine HA.out.mono ?_
  rintro e w' ⟨rfl,rfl⟩
  go_wp2_with fail
  refine HB.out.mono ?_
  rintro e w' ⟨rfl,rfl⟩
  go_wp2
  go_ret2
  exact⟨rfl,below_alloc (Below.refl _ _) _⟩
theorem add_all {w:World} {base p bm pm:Nat} {E:List Ent} (h:TabOwn w base p bm pm E) (a b:Int) (ha:0≤a/\a<(E.length:Int)) (hb:0≤b/\b<(E.length:Int)) (hbase:base≤w.heap.size) :
  Calls Tryz.prog 170 #[.pointer (some ⟨p,0,none⟩),.agg #[.int .i64 a,.int .i64 b]] w fun e w'=>e=.returned (.tuple #[.int .i64 (if addC E a b=0 then (E.length:Int) else 0),.int .i64 (addC E a b)])/\TabOwn w' base p bm pm (if addC E a b=0 then E++[newE E a b] else E)/\Below base w w':=by
 have hEa:hasE E a=true:=decide_eq_true ha
 have hEb:hasE E b=true:=decide_eq_true hb
 obtain⟨A,c,lg,l1,l2,hr⟩:=h.raw
 obtain⟨x,rfl⟩:=Int.eq_ofNat_of_zero_le ha.1
 obtain⟨y,rfl⟩:=Int.eq_ofNat_of_zero_le hb.1
 have hx:x<E.length:=Z1
 have hy:y<E.length:=Z1
 obtain⟨_,hc,hC⟩:=Kd.R_reads' hr.rows
 obtain⟨ad,rfl,x0,_,_⟩:=at_ent hC hx
 obtain⟨ad',e',y0,_,_⟩:=at_ent hC hy
 injection e' with e'
 subst e'
 have hs1:=(h.good.small _ (List.getElem_mem hx)).2
 have hs2:=(h.good.small _ (List.getElem_mem hy)).2
 have hsum:sumB E (x:Int) (y:Int)=(E[x]).f0++(E[y]).f0:=by unfold sumB;rw[byt_at hx,byt_at hy]
 have hcode:addC E (x:Int) (y:Int)=if 64<(sumB E (x:Int) (y:Int)).size then 3 else if 1000≤E.length then 5 else if (idxB E (sumB E (x:Int) (y:Int))).isSome then 10 else 0:=by unfold addC;rw[if_pos ⟨hEa,hEb⟩]
 obtain⟨C,hCd⟩:∃ C,C=addC E (x:Int) (y:Int):=⟨_,rfl⟩
 rw[←hCd]
 rw[←hCd]at hcode
 obtain⟨E',hE'⟩:∃ E',E'=if C=0 then E++[newE E (x:Int) (y:Int)] else E:=⟨_,rfl⟩
 obtain⟨I',hI'⟩:∃ I':Int,I'=if C=0 then (E.length:Int) else 0:=⟨_,rfl⟩
 rw[←hE',←hI']
 have HN:=As.mk (And.intro hE' hI')
 clear hE' hI'
 generalize hs:sumB E (x:Int) (y:Int)=s at hsum hcode
 have hsz:s.size=(E[x]).f0.size+(E[y]).f0.size:=by rw[hsum];exact ByteArray.size_append
 have HM:=As.mk (And.intro hsum (And.intro hcode (And.intro hCd hs)))
 have HH:=As.mk h
 have hB1:=below_alloc (Below.refl w.heap.size w) (.cells #[.int .i64 (x:Int),.int .i64 (y:Int)] 91)
 have HR:=As.mk (hr.below hB1)
 have c0:=(hr.below hB1).c0
 have HA:=As.mk (has_is (x:Int) c0)
 have HB:=As.mk (has_is (y:Int) c0)
 rw[hEa]at HA
 rw[hEb]at HB
 have hh:=(Go.MapKept.heap_alloc w (.cells #[.int .i64 (x:Int),.int .i64 (y:Int)] 91)).1
 have m0:(w.alloc (.cells #[.int .i64 (x:Int),.int .i64 (y:Int)] 91)).cell? ⟨w.heap.size,0,none⟩=some (.int .i64 (x:Int)):=Z69
 have m1:(w.alloc (.cells #[.int .i64 (x:Int),.int .i64 (y:Int)] 91)).cell? ⟨w.heap.size,1,none⟩=some (.int .i64 (y:Int)):=Z69
 replace x0:=pw_cell_below hB1 x0
 replace y0:=pw_cell_below hB1 y0
 have HE:=As.mk hh
 have HB1:=As.mk hB1
 have hxi:(x:Int)<(E.length:Int):=Z1
 have hyi:(y:Int)<(E.length:Int):=Z1
 clear hr hC h hsum hcode hCd hs hh hB1 ha hb hEa hEb
 generalize (E[x]).f0=s1 at x0 hs1 hsz HM
 generalize (E[y]).f0=s2 at y0 hs2 hsz HM
 go_enter Tryz.func170,Tryz.ntmps170
 go_wp2_with fail
 generalize w.alloc (.cells #[.int .i64 (x:Int),.int .i64 (y:Int)] 91)=w1 at HR c0 HA HB m0 m1 x0 y0 HE HB1 ⊢
 refine HA.out.mono ?_
 rintro e w' ⟨rfl,rfl⟩
 go_wp2_with fail
 refine HB.out.mono ?_
 rintro e w' ⟨rfl,rfl⟩
 clear HA HB
 go_wp2
 go_quiet (fail)
 have hb12:=pw_below_drewN (Below.refl w1.heap.size w1) nq
 have HB2:=As.mk (pw_below_drewN HB1.out nq)
 replace HR:=As.mk (HR.out.below hb12)
 replace c0:=pw_cell_below hb12 c0
 replace m0:=pw_cell_below hb12 m0
 replace m1:=pw_cell_below hb12 m1
 replace HE:=As.mk ((hb12.block _ (blk_lt HE.out)).trans HE.out)
 clear hb12 HB1 x0 y0 hs1 hs2 hsz
 generalize w1.drewN nq=w2 at HR c0 m0 m1 HE HB2 ⊢
 rw[←HM.out.1]
 by_cases h64:64<s.size
 ·have h64i:(64:Int)<(s.size:Int):=by omega
  have e3:C=3:=HM.out.2.1.trans (if_pos h64)
  have HZ:=As.mk e3
  clear e3 h64
  go_wp2
  go_ret2
  refine⟨Z70,?_,HB2.out.mono hbase⟩
  rw[HN.out.1,HZ.out,if_neg (Z31)]
  exact HH.out.below HB2.out
 have h64i:¬ (64:Int)<(s.size:Int):=Z1
 by_cases h1000:1000≤E.length
 ·have h1000i:(1000:Int)≤(E.length:Int):=by omega
  have e3:C=5:=HM.out.2.1.trans ((if_neg h64).trans (if_pos h1000))
  have HZ:=As.mk e3
  clear e3 h64 h1000
  go_wp2
  go_ret2
  refine⟨Z70,?_,HB2.out.mono hbase⟩
  rw[HN.out.1,HZ.out,if_neg (Z31)]
  exact HH.out.below HB2.out
 have h1000i:¬ (1000:Int)≤(E.length:Int):=Z1
 have hl:=lookup_ok (P:=Tryz.prog) (E:=encStr) Tryz.underlying189 Tryz.underlying9 HR.out.bytes s (z:=.int .i64 0) (Z15)
 rw[get_bytl]at hl
 simp only[encStr]at hl
 have c1:=HR.out.c1
 cases hi:idxB E s with
 | some i =>
  rw[hi]at hl
  simp only[Option.map_some,Option.getD_some,Option.isSome_some]at hl
  have e3:C=10:=HM.out.2.1.trans ((if_neg h64).trans ((if_neg h1000).trans (by rw[hi];rfl)))
  have HZ:=As.mk e3
  clear e3 h64 h1000 hi
  go_wp2
  go_ret2
  refine⟨Z70,?_,HB2.out.mono hbase⟩
  rw[HN.out.1,HZ.out,if_neg (Z31)]
  exact HH.out.below HB2.out
 | none =>
  rw[hi]at hl
  simp only[Option.map_none,Option.getD_none,Option.isSome_none]at hl
  have e3:C=0:=HM.out.2.1.trans ((if_neg h64).trans ((if_neg h1000).trans (by rw[hi];rfl)))
  have HZ:=As.mk e3
  have HI:=As.mk hi
  have HK:=As.mk (And.intro h64 h1000)
  clear e3 h64 h1000 hi
  go_wp2
  have hnp:some p≠(Value.slice (some ad) E.length c).ownBlock:=Kd.R_ne HR.out.rows HR.out.blk (Z31)
  have hnm:some w.heap.size≠(Value.slice (some ad) E.length c).ownBlock:=Kd.R_ne HR.out.rows HE.out (Z31)
  have hwb:w.heap.size≠bm:=fun e=>by obtain⟨_,_,_,_,_,q⟩:=HH.out.raw;have:=q.bytes.lt;omega
  have hwm:w.heap.size≠pm:=fun e=>by obtain⟨_,_,_,_,_,q⟩:=HH.out.raw;have:=q.pairs.lt;omega
  have HNE:=As.mk (And.intro hnp (And.intro hnm (And.intro hwb hwm)))
  clear hnp hnm hwb hwm c1 hl
  refine start_ (n:=13) (S:=fun w'=>w'.cell? ⟨p,0,none⟩=some (.slice (some ad) E.length c)/\w'.cell? ⟨w.heap.size,0,none⟩=some (.int .i64 (x:Int))/\w'.cell? ⟨w.heap.size,1,none⟩=some (.int .i64 (y:Int))) (ds:=[12]) #[false,false,false,false,false,false,false,false,false,false,false,false,false] (Z15) rfl rfl (⟨c0,m0,m1⟩) (fun hHeld=>?_)
  have HR3:=As.mk (HR.out.below (below_drew1 (Below.refl _ _)));have HB3:=As.mk (below_drew1 HB2.out);have HE3:As (w2.drew.heap[w.heap.size]?=some (Obj.cells #[Value.int IntKind.i64 ↑x,Value.int IntKind.i64 ↑y] 91)):=As.mk HE.out;clear HR HB2 HE c0 m0 m1;generalize w2.drew=w3 at HR3 HB3 HE3 hHeld ⊢;have HH3:=As.mk hHeld
  refine pI 0 (some 69) (bs 13 1) ?_
  refine pI 1 (some 70) (bs 13 3) ?_
  refine pI 2 (some 71) (bs 13 7) ?_
  refine pI 3 (some 72) (bs 13 15) ?_
  refine pI 5 (some 74) (bs 13 47) ?_
  refine tI 4 (some 73) (bs 13 63) rfl (Z71) hHeld ?_
  refine tI 6 (some 75) (bs 13 127) rfl (Z71) hHeld ?_
  refine pI 7 (some 76) (bs 13 255) ?_
  refine one_ (i:=8) (N:=some 77) (bs 13 511) rfl rfl (Z15) (Z31) (fun K hK=>?_)
  refine value_ (w1:=w3.alloc (.cells #[.string s,.int .i64 (x:Int),.int .i64 (y:Int)] 223)) (v:=.slice (some ⟨w3.heap.size,0,none⟩) 1 1) (by rfl) rfl ?_ ?_
  ·first|(go_simp;done)|(go_simp;rfl)
  refine hK.out _ _ (⟨pw_cell_below (below_alloc (Below.refl _ _) _) hHeld.1,pw_cell_below (below_alloc (Below.refl _ _) _) hHeld.2.1,pw_cell_below (below_alloc (Below.refl _ _) _) hHeld.2.2⟩) (fun hHeld=>?_)
  clear hK K
  refine nI ?_
  refine one_ (i:=9) (N:=some 78) (bs 13 1023) rfl rfl (Z15) (Z31) (fun K hK=>?_)
  refine Kd.R_append_step kEnt (w0:=w) base (by rfl) (.tmp 73) (.tmp 77) 224 223 (.agg #[.string ⟨#[]⟩,.int .i64 0,.int .i64 0]) 32 rfl Tryz.underlying224 info_ent rfl (Z31) (Z1) (.slice (some ad) E.length c) E ⟨s,(x:Int),(y:Int)⟩ [.string s,.int .i64 (x:Int),.int .i64 (y:Int)] (fun _=>True) (fun _=>False) rfl ?aX ?aP (fun _ hk=>hk.elim) (fun _ _=>trivial) HR3.out.rows (HB3.out.mono hbase) (Nat.le_trans hbase HB3.out.size) (Z65) ?_
  (case aX=>exact rfl)
  (case aP=>exact kEnt_mkM _ _ _ ⟨s,(x:Int),(y:Int)⟩)
  intro v1 w4 ho hb hg hat
  obtain⟨A1,n1,k1,rfl⟩:∃ A1 n1 k1,v1=.slice A1 n1 k1:=(by obtain⟨A1,k1,h⟩:=Kd.R_slice ho;exact⟨A1,_,k1,h⟩)
  have hc4:=cell_grown hg HH3.out.1 HNE.out.1
  have hfz:=blk_frozen (blk_grown HR3.out.blk hg HNE.out.1) 0
  have HT4:=As.mk (HR3.out.told hg ho)
  have HB4:=As.mk hb
  refine hK.out _ _ ⟨hc4,cell_grown hg HH3.out.2.1 HNE.out.2.1,cell_grown hg HH3.out.2.2 HNE.out.2.1⟩ (fun hHeld=>?_)
  clear hK K
  refine norm_ (a':=?_) ?_ ?_
  rotate_left
  ·(show Act.put _ (some 78) _=_;simp only[Act.put,List.setIfInBounds_toArray,List.set_cons_zero,List.set_cons_succ];rfl)
  refine pI 10 (some 79) (bs 13 2047) ?_
  refine pI 11 (some 80) (bs 13 4095) ?_
  refine last_ (i:=12) (N:=none) (bs 13 8191) rfl rfl (Z15) (Z31) (fun K hK=>?_)
  refine skip_ (w1:=w4.setCell ⟨p,0,none⟩ (.slice A1 n1 k1)) (by rfl) rfl ?_ ?_
  ·first|(go_simp;done)|(go_simp;rfl)
  refine hK.out _ _ ?_
  clear hK K
  refine done_ (Z15) ?_
  have hwp:w.heap.size≠p:=fun e=>by obtain⟨_,_,_,_,_,q⟩:=HH.out.raw;have:=blk_lt q.blk;omega
  have m0:(w4.setCell ⟨p,0,none⟩ (.slice A1 n1 k1)).cell? ⟨w.heap.size,0,none⟩=some (.int .i64 (x:Int)):=by rw[World.cell?_setCell_far _ _ _ _ (Ne.symm hwp)];exact hHeld.2.1
  have m1:(w4.setCell ⟨p,0,none⟩ (.slice A1 n1 k1)).cell? ⟨w.heap.size,1,none⟩=some (.int .i64 (y:Int)):=by rw[World.cell?_setCell_far _ _ _ _ (Ne.symm hwp)];exact hHeld.2.2
  have HB5:=As.mk (HB4.out.setCell (p:=⟨p,0,none⟩) HH.out.raw.choose_spec.choose_spec.choose_spec.2.2.lp (.slice A1 n1 k1))
  have c1:=HT4.out.c1
  have c2:=HT4.out.c2
  rename_i hH1 hH2
  clear hHeld hH1 hH2 hc4 hfz hb hg hat ho HB4 HR3 HB3 HE3 HH3 hwp
  generalize w4.setCell ⟨p,0,none⟩ (.slice A1 n1 k1)=w5 at HT4 HB5 m0 m1 c1 c2 ⊢
  go_wp2
  have hpb:p≠bm:=HT4.out.npb
  have hpm:p≠pm:=HT4.out.npm
  have hwb:=HNE.out.2.2.1
  have hwm:=HNE.out.2.2.2
  refine start_ (n:=18) (S:=fun w'=>w'.cell? ⟨p,1,none⟩=some (.map (some bm))/\w'.cell? ⟨p,2,none⟩=some (.map (some pm))/\w'.cell? ⟨w.heap.size,0,none⟩=some (.int .i64 (x:Int))/\w'.cell? ⟨w.heap.size,1,none⟩=some (.int .i64 (y:Int))) (ds:=[]) #[false,false,false,false,false,false,false,false,false,false,false,false,false,false,false,false,false,false] (Z15) rfl rfl (⟨c1,c2,m0,m1⟩) (fun hHeld=>?_)
  have HT6:=As.mk (HT4.out.below (below_drew1 (Below.refl _ _)));have HB6:=As.mk (below_drew1 HB5.out);clear HT4 HB5 m0 m1 c1 c2;generalize w5.drew=w6 at HT6 HB6 hHeld ⊢;obtain⟨n2,w7,r1,b1,k1⟩:=entry_run (P:=Tryz.prog) (E:=encStr) Tryz.underlying189 Tryz.underlying9 HT6.out.bytes s (by rw[get_bytl,HI.out];rfl) (z:=.int .i64 0) (Z15);obtain⟨w8,r2,b2,q1⟩:=k1 (.int .i64 E.length);clear k1;obtain⟨n3,w9,r3,b3,k3⟩:=Ms.entry_run (mty:=225) (et:=3) Tryz.underlying225 (HT6.out.pairs.of_block ((b1.trans b2).block pm (Ne.symm HT6.out.ne))) ((x:Int),(y:Int)) (by rw[get_pairl,HH.out.good.pair_none (by rw[HM.out.2.2.2];exact HI.out)];rfl) (z:=.int .i64 0) (Z15);obtain⟨w10,r4,b4,q2⟩:=k3 (.int .i64 E.length);clear k3;simp only[encStr]at r1 r2 r3 r4;unfold Ms.encM at r3
  refine pI 0 (some 81) (bs 18 1) ?_
  refine pI 1 (some 82) (bs 18 3) ?_
  refine pI 2 (some 83) (bs 18 7) ?_
  refine pI 4 (some 85) (bs 18 23) ?_
  refine pI 5 (some 86) (bs 18 55) ?_
  refine pI 6 (some 87) (bs 18 119) ?_
  refine pI 7 (some 88) (bs 18 247) ?_
  refine pI 10 (some 91) (bs 18 1271) ?_
  refine pI 11 (some 92) (bs 18 3319) ?_
  refine tI 3 (some 84) (bs 18 3327) rfl (Z72) hHeld ?_
  refine tI 8 (some 89) (bs 18 3583) rfl (Z72) hHeld ?_
  refine tI 9 (some 90) (bs 18 4095) rfl (Z72) hHeld ?_
  refine one_ (i:=12) (N:=some 93) (bs 18 8191) rfl rfl (Z15) (Z31) (fun K hK=>?_)
  refine value_ (w1:=w7) (v:=.tuple #[.int .i64 0,.int .i64 n2]) (by rfl) rfl ?_ ?_
  ·first|(go_simp;done)|(go_simp;rfl)
  refine hK.out _ _ (by simpa only[b1.cell (a:=⟨p,1,none⟩) hpb,b1.cell (a:=⟨p,2,none⟩) hpb,b1.cell (a:=⟨w.heap.size,0,none⟩) hwb,b1.cell (a:=⟨w.heap.size,1,none⟩) hwb] using hHeld) (fun hHeld=>?_)
  clear hK K
  refine nI ?_
  refine pI 13 (some 94) (bs 18 16383) ?_
  refine one_ (i:=14) (N:=none) (bs 18 32767) rfl rfl (Z15) (Z31) (fun K hK=>?_)
  refine skip_ (w1:=w8) (by rfl) rfl ?_ ?_
  ·first|(go_simp;done)|(go_simp;rfl)
  refine hK.out _ _ (by simpa only[b2.cell (a:=⟨p,1,none⟩) hpb,b2.cell (a:=⟨p,2,none⟩) hpb,b2.cell (a:=⟨w.heap.size,0,none⟩) hwb,b2.cell (a:=⟨w.heap.size,1,none⟩) hwb] using hHeld) (fun hHeld=>?_)
  clear hK K
  refine one_ (i:=15) (N:=some 95) (bs 18 65535) rfl rfl (Z15) (Z31) (fun K hK=>?_)
  refine value_ (w1:=w9) (v:=.tuple #[.int .i64 0,.int .i64 n3]) (by rfl) rfl ?_ ?_
  ·first|(go_simp;done)|(go_simp;rfl)
  refine hK.out _ _ (by simpa only[b3.cell (a:=⟨p,1,none⟩) hpm,b3.cell (a:=⟨p,2,none⟩) hpm,b3.cell (a:=⟨w.heap.size,0,none⟩) hwm,b3.cell (a:=⟨w.heap.size,1,none⟩) hwm] using hHeld) (fun hHeld=>?_)
  clear hK K
  refine nI ?_
  refine pI 16 (some 96) (bs 18 131071) ?_
  refine one_ (i:=17) (N:=none) (bs 18 262143) rfl rfl (Z15) (Z31) (fun K hK=>?_)
  refine skip_ (w1:=w10) (by rfl) rfl ?_ ?_
  ·first|(go_simp;done)|(go_simp;rfl)
  refine hK.out _ _ (by simpa only[b4.cell (a:=⟨p,1,none⟩) hpm,b4.cell (a:=⟨p,2,none⟩) hpm,b4.cell (a:=⟨w.heap.size,0,none⟩) hwm,b4.cell (a:=⟨w.heap.size,1,none⟩) hwm] using hHeld) (fun hHeld=>?_)
  clear hK K
  refine done_ (Z15) ?_
  have h256:=HH.out.good.many.1
  have HT:=As.mk ((HT6.out.putB (b1.trans b2) (I':=E++[⟨s,(x:Int),(y:Int)⟩]) (by rw[bytl_snoc];exact q1)).putP (b3.trans b4) (P':=(E++[({ f0:=s,f1:=(x:Int),f2:=(y:Int) }:Ent)]).drop 256) (by rw[List.drop_append_of_le_length h256,pairl_snoc,List.length_drop,Nat.add_sub_cancel' h256];exact q2))
  have HB:=As.mk ((HB6.out.trans ((b1.trans b2).below HT6.out.lb)).trans ((b3.trans b4).below HT6.out.lm))
  clear r1 r2 r3 r4 b1 b2 b3 b4 q1 q2 HT6 HB6
  have c3:=HT.out.c3
  have hfz:=blk_frozen HT.out.blk 3
  go_wp2
  go_ret2
  have hT:=HT.out.long (mxI lg s.size)
  have e1:E'=E++[newE E (x:Int) (y:Int)]:=by rw[HN.out.1,HZ.out,if_pos rfl]
  have e2:newE E (x:Int) (y:Int)=({ f0:=s,f1:=(x:Int),f2:=(y:Int) }:Ent):=by unfold newE;rw[HM.out.2.2.2]
  refine⟨Z70,?_,HB.out.setCell (p:=⟨p,3,none⟩) HT.out.lp _⟩
  rw[←e2,←e1]at hT
  obtain⟨A9,c9,e9⟩:=Kd.R_slice hT.rows
  rw[e9]at hT
  refine⟨?_,A9,c9,mxI lg s.size,?_,?_,hT⟩
  ·rw[e1];exact HH.out.good.add (HM.out.2.2.1.symm.trans HZ.out)
  ·unfold mxI;split <;> omega
  ·unfold mxI;split <;> omega
end Go.Proofs.YtkffhgiiejbnaaaGreat.Tk
