import Derived.Test.YthcpdiknejblnaaQdTaE
import Derived.Test.YthcpdiknejblnaaQdShH
set_option maxRecDepth 100000
set_option maxHeartbeats 2000000
set_option linter.unusedVariables false
set_option linter.unusedSimpArgs false
namespace Go.Proofs.Ythcpdiknejblnaa.Ta
open Go Go.MapKept Go.RowKit Go.ChangeMaps Mp YthcpdiknejblnaaW.PrintWords YthcpdiknejblnaaW.PrintLast YthcpdiknejblnaaW.PrintMore Rf Aid Hp
variable {lo hi d bi bp:Nat} {w w':World} {I:List (Int × Int)} {P:List ((Int × Int) × Int)} {n:Int}
theorem cloneI_any (b:Nat) (es:Array MapEntry) (clock:Nat) (w:World) (hb:w.heap[b]?=some (.map es clock)):Calls Try.prog 32 #[.map (some b)] w fun e w'=>e=.returned (.map (some w.heap.size))/\w'=w.alloc (.map es clock):=AnyW.maps_Clone Try.cloneI b es clock w hb
theorem cloneP_any (b:Nat) (es:Array MapEntry) (clock:Nat) (w:World) (hb:w.heap[b]?=some (.map es clock)):Calls Try.prog 34 #[.map (some b)] w fun e w'=>e=.returned (.map (some w.heap.size))/\w'=w.alloc (.map es clock):=AnyW.maps_Clone Try.cloneP b es clock w hb
structure Both (I I2 I':List (Int × Int)) (P P2 P':List ((Int × Int) × Int)) (n n2 n':Int):Prop where
 ids:∀ k,getN I' k=getN I k+getN I2 k
 prs:∀ k,getN P' k=getN P k+getN P2 k
 tot:n'=n+n2
 fi:Fine I' n'
 fp:∃ m,m≤n'/\Fine P' m
structure Fin2 (I:List (Int × Int)) (P:List ((Int × Int) × Int)) (n:Int):Prop where
 fi:Fine I n
 fp:∃ m,m≤n/\Fine P m
def ptr (x:Option Nat):Value:=.pointer (x.map (fun e=>⟨e,0,none⟩))
theorem getN_perm {κ:Type} [DecidableEq κ] {a b:List (κ × Int)} (h:a.Perm b) (hn:(b.map (·.1)).Nodup) (k:κ):getN a k=getN b k:=by
 have hna:(a.map (·.1)).Nodup:=(h.map (·.1)).nodup_iff.2 hn
 by_cases hk:hasK b k
 ·obtain⟨p,hp,e⟩:=List.mem_map.1 hk
  rw[←e,getN_mem hn hp,getN_mem hna (h.mem_iff.2 hp)]
 ·have hk2:¬ hasK a k:=fun q=>hk ((h.map (·.1)).mem_iff.1 q)
  rw[getN_none hk,getN_none hk2]
structure MrgS (W:World) (d e:Nat) (w':World):Prop where
 d_:w'.heap[d]?=W.heap[d]?
 e_:w'.heap[e]?=W.heap[e]?
theorem merge_gen (St:Nat->List (Int × Int)->List ((Int × Int) × Int)->Int->Prop) (xs:List (Option Nat)) {g c:Nat}
  (hrow:∀ W,Out lo hi w W->∀ i x,xs[i]?=some x->W.cell? ⟨g,i,none⟩=some (ptr x)) (hxl:xs.length≤1000)
  (h:TalAt lo hi w d bi bp I P n) (h0:St 0 I P n) (hfin:∀ i I P n,St i I P n->Fin2 I P n/\n≤400000)
  (hnone:∀ i I P n,xs[i]?=some none->St i I P n->St (i+1) I P n)
  (hsome:∀ i eb I' P' n' W,xs[i]?=some (some eb)->St i I' P' n'->TalAt lo hi W d bi bp I' P' n'->Out lo hi w W->∃ bi2 bp2 I2 P2 n2,W.heap[eb]?=some (.cells #[.map (some bi2),.map (some bp2),.int .i64 n2] 55 (0,0))/\MapIs encInt W bi2 (vL I2)/\Blk encM W bp2 (vL P2)/\bp2≠bi/\Fin2 I2 P2 n2/\n2≤400000/\∀ I'' P'' n'',Both I' I2 I'' P' P2 P'' n' n2 n''->St (i+1) I'' P'' n'') :
  Calls Try.prog 16 #[.pointer (some ⟨d,0,none⟩),.slice (some ⟨g,0,none⟩) xs.length c] w fun e w'=>e=.returned (.tuple #[])/\∃ I' P' n',St xs.length I' P' n'/\TalAt lo hi w' d bi bp I' P' n'/\Out lo hi w w':=by
 have HT:=As.mk h
 have HROW:=As.mk hrow
 have HST:=As.mk h0
 have HFIN:=As.mk hfin
 have HNONE:=As.mk hnone
 have HSOME:=As.mk hsome
 clear h hrow h0 hfin hnone hsome
 go_enter Try.func16,Try.ntmps16
 go_wp2
 go_loopg [10] xs.length (fun k v10 W=>∃ (i:Nat) (I':List (Int × Int)) (P':List ((Int × Int) × Int)) (n':Int),v10=.int .i64 (i:Int)/\i≤xs.length/\As (xs.length-i≤k)/\As (St i I' P' n')/\As (TalAt lo hi W d bi bp I' P' n')/\As (Out lo hi w W))
 case atStart=>exact⟨0,I,P,n,rfl,Nat.zero_le _,⟨Z0⟩,HST,HT,⟨Out.refl _ _ _⟩⟩
 case round =>
  clear HT HST
  obtain⟨i,I',P',n',rfl,hi',HK,HST,HT,HO⟩:=hrel
  rename World=>W
  by_cases hlt:i<xs.length
  ·have hltI:(i:Int)<(xs.length:Int):=by omega
   obtain⟨k1,rfl⟩:∃ k1,gk=k1+1:=⟨gk-1,Z12⟩
   obtain⟨x,hx⟩:∃ x,xs[i]?=some x:=⟨_,List.getElem?_eq_getElem hlt⟩
   have xr:=HROW.out W HO.out i x hx
   have hwi:wrap64 ((i:Int)+1)=(i:Int)+1:=w64 (Z0) (Z0)
   cases x with
   | none =>
    have HS1:=As.mk (HNONE.out i I' P' n' hx HST.out)
    have xr':W.cell? ⟨g,i,none⟩=some (.pointer none):=xr
    clear xr hx
    go_wp2
    go_roundg k1
    case measure=>omega
    case rel=>exact⟨i+1,I',P',n',by go_num,hlt,⟨Z12⟩,HS1,HT,HO⟩
   | some eb =>
    obtain⟨bi2,bp2,I2,P2,n2,he,hi2,hp2,hne,hf2,hn2,hst⟩:=HSOME.out i eb I' P' n' W hx HST.out HT.out HO.out
    have xr':W.cell? ⟨g,i,none⟩=some (.pointer (some ⟨eb,0,none⟩)):=xr
    have HE:=As.mk he
    have HI2:=As.mk hi2
    have HP2:=As.mk hp2
    have HNE:=As.mk hne
    have HF2:=As.mk (And.intro hf2 hn2)
    have HSX:=As.mk hst
    have HFI:=As.mk (HFIN.out i I' P' n' HST.out)
    have hei:eb≠bi:=fun q=>by
     obtain⟨es,clock,h1,_⟩:=HT.out.ids
     rw[←q,he]at h1
     cases h1
    have hep:eb≠bp:=fun q=>HT.out.prs.ne_cells (by rw[q]at he;exact he) rfl
    have HEE:=As.mk (And.intro hei hep)
    clear xr hx he hi2 hp2 hne hf2 hn2 hst hei hep
    go_wp2
    have HD1:=As.mk (below_drew1 (Below.refl W.heap.size W))
    have HT1:=As.mk (HT.out.below HD1.out)
    have HE1:=As.mk ((HD1.out.block _ (lt_of HE.out)).trans HE.out)
    have HI21:=As.mk (show MapIs encInt W.drew bi2 (vL I2) from HI2.out.of_block (HD1.out.block _ HI2.out.lt))
    have HP21:=As.mk (HP2.out.below HD1.out)
    have HO1:=As.mk (HO.out.trans (Out.of_below HD1.out))
    have HS1:=As.mk (show MrgS W d eb W.drew from⟨HD1.out.block _ (lt_of HT.out.blk),HD1.out.block _ (lt_of HE.out)⟩)
    generalize hW1:W.drew=W1 at HD1 HT1 HE1 HI21 HP21 HO1 HS1
    have HW1:=As.mk hW1
    clear hW1
    obtain⟨es,clk,hb1,hcp⟩:=Blk.copy (show Blk encInt.enc W1 bi2 (vL I2) from HI21.out)
    have hB2:=below_alloc (Below.refl W1.heap.size W1) (.map es clk)
    have HADD:=As.mk (addI_any (HT1.out.ids.of_block (hB2.block _ HT1.out.ids.lt)) (show MapIs encInt (W1.alloc (.map es clk)) W1.heap.size (vL I2) from hcp) (Nat.ne_of_lt HT1.out.ids.lt) HFI.out.1.fi HF2.out.1.fi (Z17))
    have HB2:=As.mk hB2
    have HBX:=As.mk hb1
    clear hB2 hcp hb1
    refine start_ (n:=10) (S:=MrgS W d eb) (ds:=[]) #[false,false,false,false,false,false,false,false,false,false] (Z6) rfl rfl (by rw[HW1.out];exact HS1.out) (fun hHeld=>?_)
    rw[HW1.out]at hHeld ⊢
    refine pure_ (i:=0) (N:=some 16) (v:=?_) (a':=?_) #[true,false,false,false,false,false,false,false,false,false] rfl rfl (Z6) (fun _ _ _ h=>h) (Or.inl ⟨by rfl,?_⟩) ?_ ?_
    rotate_left
    ·intro w'
     go_simp
     with_reducible rfl
    rotate_left
    ·simp only[Act.put,List.setIfInBounds_toArray,List.set_cons_zero,List.set_cons_succ,i64_w,i32_w]
     rfl
    refine pure_ (i:=1) (N:=some 17) (v:=?_) (a':=?_) #[true,true,false,false,false,false,false,false,false,false] rfl rfl (Z6) (fun _ _ _ h=>h) (Or.inl ⟨by rfl,?_⟩) ?_ ?_
    rotate_left
    ·intro w'
     go_simp
     with_reducible rfl
    rotate_left
    ·simp only[Act.put,List.setIfInBounds_toArray,List.set_cons_zero,List.set_cons_succ,i64_w,i32_w]
     rfl
    refine pure_ (i:=2) (N:=some 18) (v:=?_) (a':=?_) #[true,true,true,false,false,false,false,false,false,false] rfl rfl (Z6) (fun _ _ _ h=>h) (Or.inl ⟨by rfl,?_⟩) ?_ ?_
    rotate_left
    ·intro w'
     go_simp
     with_reducible rfl
    rotate_left
    ·simp only[Act.put,List.setIfInBounds_toArray,List.set_cons_zero,List.set_cons_succ,i64_w,i32_w]
     rfl
    refine pure_ (i:=4) (N:=some 20) (v:=?_) (a':=?_) #[true,true,true,false,true,false,false,false,false,false] rfl rfl (Z6) (fun _ _ _ h=>h) (Or.inl ⟨by rfl,?_⟩) ?_ ?_
    rotate_left
    ·intro w'
     go_simp
     with_reducible rfl
    rotate_left
    ·simp only[Act.put,List.setIfInBounds_toArray,List.set_cons_zero,List.set_cons_succ,i64_w,i32_w]
     rfl
    refine pure_ (i:=5) (N:=some 21) (v:=?_) (a':=?_) #[true,true,true,false,true,true,false,false,false,false] rfl rfl (Z6) (fun _ _ _ h=>h) (Or.inl ⟨by rfl,?_⟩) ?_ ?_
    rotate_left
    ·intro w'
     go_simp
     with_reducible rfl
    rotate_left
    ·simp only[Act.put,List.setIfInBounds_toArray,List.set_cons_zero,List.set_cons_succ,i64_w,i32_w]
     rfl
    refine pure_ (i:=6) (N:=some 22) (v:=?_) (a':=?_) #[true,true,true,false,true,true,true,false,false,false] rfl rfl (Z6) (fun _ _ _ h=>h) (Or.inl ⟨by rfl,?_⟩) ?_ ?_
    rotate_left
    ·intro w'
     go_simp
     with_reducible rfl
    rotate_left
    ·simp only[Act.put,List.setIfInBounds_toArray,List.set_cons_zero,List.set_cons_succ,i64_w,i32_w]
     rfl
    refine take_ (i:=3) (N:=some 19) (v:=?_) (a':=?_) #[true,true,true,true,true,true,true,false,false,false] rfl rfl (Z6) (fun _ _ _ h=>h) (Or.inl ⟨by rfl,?_⟩) hHeld ?_ ?_
    rotate_left
    ·intro w' hS'
     have s0:=hS'
     have c0:=cell_of (i:=0) (hS'.d_.trans HT.out.blk) rfl;go_simp
     with_reducible rfl
    rotate_left
    ·simp only[Act.put,List.setIfInBounds_toArray,List.set_cons_zero,List.set_cons_succ,i64_w,i32_w]
     rfl
    refine take_ (i:=7) (N:=some 23) (v:=?_) (a':=?_) #[true,true,true,true,true,true,true,true,false,false] rfl rfl (Z6) (fun _ _ _ h=>h) (Or.inl ⟨by rfl,?_⟩) hHeld ?_ ?_
    rotate_left
    ·intro w' hS'
     have s0:=hS'
     have c0:=cell_of (i:=0) (hS'.e_.trans HE.out) rfl;go_simp
     with_reducible rfl
    rotate_left
    ·simp only[Act.put,List.setIfInBounds_toArray,List.set_cons_zero,List.set_cons_succ,i64_w,i32_w]
     rfl
    refine one_ (i:=8) (N:=some 24) #[true,true,true,true,true,true,true,true,true,false] rfl rfl (Z6) (Z13) (fun K hK=>?_)
    refine goes_ Try.func32 (Z6) rfl #[.map (some bi2)] (by rfl) rfl rfl (Z18) ?_
    refine(cloneI_any bi2 es clk _ HBX.out).mono ?_
    rintro er w2 ⟨rfl,rfl⟩
    refine⟨_,rfl,?_⟩
    refine hK.out _ _ ⟨(HB2.out.block _ (lt_of HT1.out.blk)).trans HS1.out.d_,(HB2.out.block _ (lt_of HE1.out)).trans HS1.out.e_⟩ (fun hHeld=>?_)
    clear hK K
    refine norm_ (a':=?_) ?_ ?_
    rotate_left
    ·(simp only[Act.put,List.setIfInBounds_toArray,List.set_cons_zero,List.set_cons_succ];rfl)
    refine one_ (i:=9) (N:=some 25) #[true,true,true,true,true,true,true,true,true,true] rfl rfl (Z6) (Z13) (fun K hK=>?_)
    refine goes_ Try.func31 (Z6) rfl #[.map (some bi),.map (some W1.heap.size)] (by rfl) rfl rfl (Z18) ?_
    refine(HADD.out).mono ?_
    rintro er w3 ⟨rfl,M',hpm,hm3,ho3⟩
    refine⟨_,rfl,?_⟩
    have HPM:=As.mk hpm
    have HM3:=As.mk hm3
    have HO3:=As.mk ho3
    clear hpm hm3 ho3
    have HD3:=As.mk (show w3.heap[d]?=W1.heap[d]? from (HO3.out.block _ (Nat.lt_of_lt_of_le (lt_of HT1.out.blk) HB2.out.size) (by have:=HT1.out.nei;omega)).trans (HB2.out.block _ (lt_of HT1.out.blk)))
    have HE3:=As.mk (show w3.heap[eb]?=W1.heap[eb]? from (HO3.out.block _ (Nat.lt_of_lt_of_le (lt_of HE1.out) HB2.out.size) (by have:=HEE.out.1;omega)).trans (HB2.out.block _ (lt_of HE1.out)))
    refine hK.out _ _ ⟨HD3.out.trans HS1.out.d_,HE3.out.trans HS1.out.e_⟩ (fun hHeld=>?_)
    clear hK K
    refine norm_ (a':=?_) ?_ ?_
    rotate_left
    ·(simp only[Act.put,List.setIfInBounds_toArray,List.set_cons_zero,List.set_cons_succ];rfl)
    refine done_ (Z6) ?_
    have HP3:=As.mk (show Blk encM w3 bp (vL P') from HT1.out.prs.of_block ((HO3.out.block _ (Nat.lt_of_lt_of_le HT1.out.prs.lt HB2.out.size) (by have:=HT1.out.ne;omega)).trans (HB2.out.block _ HT1.out.prs.lt)))
    have HP23:=As.mk (show Blk encM w3 bp2 (vL P2) from HP21.out.of_block ((HO3.out.block _ (Nat.lt_of_lt_of_le HP21.out.lt HB2.out.size) (by have:=HNE.out;omega)).trans (HB2.out.block _ HP21.out.lt)))
    have HT3:=As.mk (show TalAt lo hi w3 d bi bp (mergeN I' M') P' n' from⟨HD3.out.trans HT1.out.blk,HM3.out,HP3.out,HT1.out.ne,HT1.out.rd,HT1.out.ri,HT1.out.rp⟩)
    have HO3X:=As.mk ((HO1.out.trans (Out.of_below HB2.out)).trans (HO3.out.mono HT1.out.ri.1 (by have:=HT1.out.ri.2;omega)))
    have HE3X:=As.mk (HE3.out.trans HE1.out)
    clear HS1 HW1 HADD HBX HB2 HD3 HE3 HM3 HO3 HP3 HT1 HE1 HI21 HP21 HO1 HD1 HT HE HI2 HP2 HO
    go_wp2
    have HD4:=As.mk (below_drew1 (Below.refl w3.heap.size w3))
    have HT4:=As.mk (HT3.out.below HD4.out)
    have HE4:=As.mk ((HD4.out.block _ (lt_of HE3X.out)).trans HE3X.out)
    have HP24:=As.mk (HP23.out.below HD4.out)
    have HO4:=As.mk (HO3X.out.trans (Out.of_below HD4.out))
    have HS4:=As.mk (show MrgS w3 d eb w3.drew from⟨HD4.out.block _ (lt_of HT3.out.blk),HD4.out.block _ (lt_of HE3X.out)⟩)
    generalize hW4:w3.drew=w4 at HD4 HT4 HE4 HP24 HO4 HS4
    have HW4:=As.mk hW4
    clear hW4
    obtain⟨es4,clk4,hb4,hcp4⟩:=Blk.copy HP24.out
    have hB5:=below_alloc (Below.refl w4.heap.size w4) (.map es4 clk4)
    obtain⟨mp,hmp1,hmp2⟩:=HFI.out.1.fp
    obtain⟨mq,hmq1,hmq2⟩:=HF2.out.1.fp
    have HADD:=As.mk (addP_any (HT4.out.prs.of_block (hB5.block _ HT4.out.prs.lt)) hcp4 (Nat.ne_of_lt HT4.out.prs.lt) hmp2 hmq2 (Z17))
    have HB5:=As.mk hB5
    have HBX:=As.mk hb4
    have HMM:=As.mk (And.intro hmp1 (And.intro hmp2 (And.intro hmq1 hmq2)))
    clear hB5 hcp4 hb4 hmp1 hmp2 hmq1 hmq2
    refine start_ (n:=10) (S:=MrgS w3 d eb) (ds:=[]) #[false,false,false,false,false,false,false,false,false,false] (Z6) rfl rfl (by rw[HW4.out];exact HS4.out) (fun hHeld=>?_)
    rw[HW4.out]at hHeld ⊢
    refine pure_ (i:=0) (N:=some 26) (v:=?_) (a':=?_) #[true,false,false,false,false,false,false,false,false,false] rfl rfl (Z6) (fun _ _ _ h=>h) (Or.inl ⟨by rfl,?_⟩) ?_ ?_
    rotate_left
    ·intro w'
     go_simp
     with_reducible rfl
    rotate_left
    ·simp only[Act.put,List.setIfInBounds_toArray,List.set_cons_zero,List.set_cons_succ,i64_w,i32_w]
     rfl
    refine pure_ (i:=1) (N:=some 27) (v:=?_) (a':=?_) #[true,true,false,false,false,false,false,false,false,false] rfl rfl (Z6) (fun _ _ _ h=>h) (Or.inl ⟨by rfl,?_⟩) ?_ ?_
    rotate_left
    ·intro w'
     go_simp
     with_reducible rfl
    rotate_left
    ·simp only[Act.put,List.setIfInBounds_toArray,List.set_cons_zero,List.set_cons_succ,i64_w,i32_w]
     rfl
    refine pure_ (i:=2) (N:=some 28) (v:=?_) (a':=?_) #[true,true,true,false,false,false,false,false,false,false] rfl rfl (Z6) (fun _ _ _ h=>h) (Or.inl ⟨by rfl,?_⟩) ?_ ?_
    rotate_left
    ·intro w'
     go_simp
     with_reducible rfl
    rotate_left
    ·simp only[Act.put,List.setIfInBounds_toArray,List.set_cons_zero,List.set_cons_succ,i64_w,i32_w]
     rfl
    refine pure_ (i:=4) (N:=some 30) (v:=?_) (a':=?_) #[true,true,true,false,true,false,false,false,false,false] rfl rfl (Z6) (fun _ _ _ h=>h) (Or.inl ⟨by rfl,?_⟩) ?_ ?_
    rotate_left
    ·intro w'
     go_simp
     with_reducible rfl
    rotate_left
    ·simp only[Act.put,List.setIfInBounds_toArray,List.set_cons_zero,List.set_cons_succ,i64_w,i32_w]
     rfl
    refine pure_ (i:=5) (N:=some 31) (v:=?_) (a':=?_) #[true,true,true,false,true,true,false,false,false,false] rfl rfl (Z6) (fun _ _ _ h=>h) (Or.inl ⟨by rfl,?_⟩) ?_ ?_
    rotate_left
    ·intro w'
     go_simp
     with_reducible rfl
    rotate_left
    ·simp only[Act.put,List.setIfInBounds_toArray,List.set_cons_zero,List.set_cons_succ,i64_w,i32_w]
     rfl
    refine pure_ (i:=6) (N:=some 32) (v:=?_) (a':=?_) #[true,true,true,false,true,true,true,false,false,false] rfl rfl (Z6) (fun _ _ _ h=>h) (Or.inl ⟨by rfl,?_⟩) ?_ ?_
    rotate_left
    ·intro w'
     go_simp
     with_reducible rfl
    rotate_left
    ·simp only[Act.put,List.setIfInBounds_toArray,List.set_cons_zero,List.set_cons_succ,i64_w,i32_w]
     rfl
    refine take_ (i:=3) (N:=some 29) (v:=?_) (a':=?_) #[true,true,true,true,true,true,true,false,false,false] rfl rfl (Z6) (fun _ _ _ h=>h) (Or.inl ⟨by rfl,?_⟩) hHeld ?_ ?_
    rotate_left
    ·intro w' hS'
     have s0:=hS'
     have c0:=cell_of (i:=1) (hS'.d_.trans HT3.out.blk) rfl;go_simp
     with_reducible rfl
    rotate_left
    ·simp only[Act.put,List.setIfInBounds_toArray,List.set_cons_zero,List.set_cons_succ,i64_w,i32_w]
     rfl
    refine take_ (i:=7) (N:=some 33) (v:=?_) (a':=?_) #[true,true,true,true,true,true,true,true,false,false] rfl rfl (Z6) (fun _ _ _ h=>h) (Or.inl ⟨by rfl,?_⟩) hHeld ?_ ?_
    rotate_left
    ·intro w' hS'
     have s0:=hS'
     have c0:=cell_of (i:=1) (hS'.e_.trans HE3X.out) rfl;go_simp
     with_reducible rfl
    rotate_left
    ·simp only[Act.put,List.setIfInBounds_toArray,List.set_cons_zero,List.set_cons_succ,i64_w,i32_w]
     rfl
    refine one_ (i:=8) (N:=some 34) #[true,true,true,true,true,true,true,true,true,false] rfl rfl (Z6) (Z13) (fun K hK=>?_)
    refine goes_ Try.func34 (Z6) rfl #[.map (some bp2)] (by rfl) rfl rfl (Z18) ?_
    refine(cloneP_any bp2 es4 clk4 _ HBX.out).mono ?_
    rintro er w5 ⟨rfl,rfl⟩
    refine⟨_,rfl,?_⟩
    refine hK.out _ _ ⟨(HB5.out.block _ (lt_of HT4.out.blk)).trans HS4.out.d_,(HB5.out.block _ (lt_of HE4.out)).trans HS4.out.e_⟩ (fun hHeld=>?_)
    clear hK K
    refine norm_ (a':=?_) ?_ ?_
    rotate_left
    ·(simp only[Act.put,List.setIfInBounds_toArray,List.set_cons_zero,List.set_cons_succ];rfl)
    refine one_ (i:=9) (N:=some 35) #[true,true,true,true,true,true,true,true,true,true] rfl rfl (Z6) (Z13) (fun K hK=>?_)
    refine goes_ Try.func33 (Z6) rfl #[.map (some bp),.map (some w4.heap.size)] (by rfl) rfl rfl (Z18) ?_
    refine(HADD.out).mono ?_
    rintro er w6 ⟨rfl,MP,hpm,hm3,ho3⟩
    refine⟨_,rfl,?_⟩
    have HPP:=As.mk hpm
    have HM6:=As.mk hm3
    have HO6:=As.mk ho3
    clear hpm hm3 ho3
    have HD6:=As.mk (show w6.heap[d]?=w4.heap[d]? from (HO6.out.block _ (Nat.lt_of_lt_of_le (lt_of HT4.out.blk) HB5.out.size) (by have:=HT4.out.nep;omega)).trans (HB5.out.block _ (lt_of HT4.out.blk)))
    have HE6:=As.mk (show w6.heap[eb]?=w4.heap[eb]? from (HO6.out.block _ (Nat.lt_of_lt_of_le (lt_of HE4.out) HB5.out.size) (by have:=HEE.out.2;omega)).trans (HB5.out.block _ (lt_of HE4.out)))
    refine hK.out _ _ ⟨HD6.out.trans HS4.out.d_,HE6.out.trans HS4.out.e_⟩ (fun hHeld=>?_)
    clear hK K
    refine norm_ (a':=?_) ?_ ?_
    rotate_left
    ·(simp only[Act.put,List.setIfInBounds_toArray,List.set_cons_zero,List.set_cons_succ];rfl)
    refine done_ (Z6) ?_
    have HI6:=As.mk (show MapIs encInt w6 bi (vL (mergeN I' M')) from HT4.out.ids.of_block ((HO6.out.block _ (Nat.lt_of_lt_of_le HT4.out.ids.lt HB5.out.size) (by have:=HT4.out.ne;omega)).trans (HB5.out.block _ HT4.out.ids.lt)))
    have HT6:=As.mk (show TalAt lo hi w6 d bi bp (mergeN I' M') (mergeN P' MP) n' from⟨HD6.out.trans HT4.out.blk,HI6.out,HM6.out,HT4.out.ne,HT4.out.rd,HT4.out.ri,HT4.out.rp⟩)
    have HO6X:=As.mk ((HO4.out.trans (Out.of_below HB5.out)).trans (HO6.out.mono HT4.out.rp.1 (by have:=HT4.out.rp.2;omega)))
    have HE6X:=As.mk (HE6.out.trans HE4.out)
    have HBO:=As.mk (show Both I' I2 (mergeN I' M') P' P2 (mergeN P' MP) n' n2 (n' + n2) from⟨fun k=>by rw[getN_mergeN M' I' k ((HPM.out.map (·.1)).nodup_iff.2 HF2.out.1.fi.nd),getN_perm HPM.out HF2.out.1.fi.nd],fun k=>by rw[getN_mergeN MP P' k ((HPP.out.map (·.1)).nodup_iff.2 HMM.out.2.2.2.nd),getN_perm HPP.out HMM.out.2.2.2.nd],rfl,by have h1:=fine_mergeN M' HFI.out.1.fi (fun q hq=>HF2.out.1.fi.one q (HPM.out.mem_iff.1 hq));rw[sumN_perm HPM.out,HF2.out.1.fi.sum]at h1;exact h1,⟨mp+mq,by have h1:=HMM.out.1;have h2:=HMM.out.2.2.1;omega,by have h1:=fine_mergeN MP HMM.out.2.1 (fun q hq=>HMM.out.2.2.2.one q (HPP.out.mem_iff.1 hq));rw[sumN_perm HPP.out,HMM.out.2.2.2.sum]at h1;exact h1⟩⟩)
    have HS8:=As.mk (HSX.out _ _ _ HBO.out)
    clear HS4 HW4 HADD HBX HB5 HD6 HE6 HM6 HO6 HI6 HT4 HE4 HP24 HO4 HD4 HT3 HE3X HP23 HO3X HMM HSX HBO
    have HFN:=As.mk (show 0≤n'/\n'≤400000/\0≤n2/\n2≤400000 from⟨by have:=HFI.out.1.fi.m0;omega,HFI.out.2,by have:=HF2.out.1.fi.m0;omega,HF2.out.2⟩)
    go_wp2
    have HD7:=As.mk (below_drew1 (Below.refl w6.heap.size w6))
    have HT7:=As.mk (HT6.out.below HD7.out)
    have HE7:=As.mk ((HD7.out.block _ (lt_of HE6X.out)).trans HE6X.out)
    have HO7:=As.mk (HO6X.out.trans (Out.of_below HD7.out))
    have HS7:=As.mk (show MrgS w6 d eb w6.drew from⟨HD7.out.block _ (lt_of HT6.out.blk),HD7.out.block _ (lt_of HE6X.out)⟩)
    generalize hW7:w6.drew=w7 at HD7 HT7 HE7 HO7 HS7
    have HW7:=As.mk hW7
    clear hW7
    have hwn:wrap64 (n' + n2)=n' + n2:=w64 (by have:=HFN.out;omega) (by have:=HFN.out;omega)
    have HT8:=As.mk (HT7.out.putN (n' + n2))
    have HO8:=As.mk (HO7.out.trans (Out.set w7 (a:=⟨d,2,none⟩) HT7.out.rd.1 HT7.out.rd.2 (.int .i64 (n' + n2))))
    have z2:=frozen_of HT7.out.blk 2
    have c2:=cell_of (i:=2) HT7.out.blk rfl
    refine start_ (n:=12) (S:=MrgS w6 d eb) (ds:=[11]) #[false,false,false,false,false,false,false,false,false,false,false,false] (Z6) rfl rfl (by rw[HW7.out];exact HS7.out) (fun hHeld=>?_)
    rw[HW7.out]at hHeld ⊢
    refine pure_ (i:=0) (N:=some 36) (v:=?_) (a':=?_) #[true,false,false,false,false,false,false,false,false,false,false,false] rfl rfl (Z6) (fun _ _ _ h=>h) (Or.inl ⟨by rfl,?_⟩) ?_ ?_
    rotate_left
    ·intro w'
     go_simp
     with_reducible rfl
    rotate_left
    ·simp only[Act.put,List.setIfInBounds_toArray,List.set_cons_zero,List.set_cons_succ,i64_w,i32_w]
     rfl
    refine pure_ (i:=1) (N:=some 37) (v:=?_) (a':=?_) #[true,true,false,false,false,false,false,false,false,false,false,false] rfl rfl (Z6) (fun _ _ _ h=>h) (Or.inl ⟨by rfl,?_⟩) ?_ ?_
    rotate_left
    ·intro w'
     go_simp
     with_reducible rfl
    rotate_left
    ·simp only[Act.put,List.setIfInBounds_toArray,List.set_cons_zero,List.set_cons_succ,i64_w,i32_w]
     rfl
    refine pure_ (i:=2) (N:=some 38) (v:=?_) (a':=?_) #[true,true,true,false,false,false,false,false,false,false,false,false] rfl rfl (Z6) (fun _ _ _ h=>h) (Or.inl ⟨by rfl,?_⟩) ?_ ?_
    rotate_left
    ·intro w'
     go_simp
     with_reducible rfl
    rotate_left
    ·simp only[Act.put,List.setIfInBounds_toArray,List.set_cons_zero,List.set_cons_succ,i64_w,i32_w]
     rfl
    refine pure_ (i:=4) (N:=some 40) (v:=?_) (a':=?_) #[true,true,true,false,true,false,false,false,false,false,false,false] rfl rfl (Z6) (fun _ _ _ h=>h) (Or.inl ⟨by rfl,?_⟩) ?_ ?_
    rotate_left
    ·intro w'
     go_simp
     with_reducible rfl
    rotate_left
    ·simp only[Act.put,List.setIfInBounds_toArray,List.set_cons_zero,List.set_cons_succ,i64_w,i32_w]
     rfl
    refine pure_ (i:=5) (N:=some 41) (v:=?_) (a':=?_) #[true,true,true,false,true,true,false,false,false,false,false,false] rfl rfl (Z6) (fun _ _ _ h=>h) (Or.inl ⟨by rfl,?_⟩) ?_ ?_
    rotate_left
    ·intro w'
     go_simp
     with_reducible rfl
    rotate_left
    ·simp only[Act.put,List.setIfInBounds_toArray,List.set_cons_zero,List.set_cons_succ,i64_w,i32_w]
     rfl
    refine pure_ (i:=6) (N:=some 42) (v:=?_) (a':=?_) #[true,true,true,false,true,true,true,false,false,false,false,false] rfl rfl (Z6) (fun _ _ _ h=>h) (Or.inl ⟨by rfl,?_⟩) ?_ ?_
    rotate_left
    ·intro w'
     go_simp
     with_reducible rfl
    rotate_left
    ·simp only[Act.put,List.setIfInBounds_toArray,List.set_cons_zero,List.set_cons_succ,i64_w,i32_w]
     rfl
    refine take_ (i:=3) (N:=some 39) (v:=?_) (a':=?_) #[true,true,true,true,true,true,true,false,false,false,false,false] rfl rfl (Z6) (fun _ _ _ h=>h) (Or.inl ⟨by rfl,?_⟩) hHeld ?_ ?_
    rotate_left
    ·intro w' hS'
     have s0:=hS'
     have c0:=cell_of (i:=2) (hS'.d_.trans HT6.out.blk) rfl;go_simp
     with_reducible rfl
    rotate_left
    ·simp only[Act.put,List.setIfInBounds_toArray,List.set_cons_zero,List.set_cons_succ,i64_w,i32_w]
     rfl
    refine take_ (i:=7) (N:=some 43) (v:=?_) (a':=?_) #[true,true,true,true,true,true,true,true,false,false,false,false] rfl rfl (Z6) (fun _ _ _ h=>h) (Or.inl ⟨by rfl,?_⟩) hHeld ?_ ?_
    rotate_left
    ·intro w' hS'
     have s0:=hS'
     have c0:=cell_of (i:=2) (hS'.e_.trans HE6X.out) rfl;go_simp
     with_reducible rfl
    rotate_left
    ·simp only[Act.put,List.setIfInBounds_toArray,List.set_cons_zero,List.set_cons_succ,i64_w,i32_w]
     rfl
    refine pure_ (i:=8) (N:=some 44) (v:=?_) (a':=?_) #[true,true,true,true,true,true,true,true,true,false,false,false] rfl rfl (Z6) (fun _ _ _ h=>h) (Or.inl ⟨by rfl,?_⟩) ?_ ?_
    rotate_left
    ·intro w'
     go_simp
     with_reducible rfl
    rotate_left
    ·simp only[Act.put,List.setIfInBounds_toArray,List.set_cons_zero,List.set_cons_succ,i64_w,i32_w]
     rfl
    refine pure_ (i:=9) (N:=some 45) (v:=?_) (a':=?_) #[true,true,true,true,true,true,true,true,true,true,false,false] rfl rfl (Z6) (fun _ _ _ h=>h) (Or.inl ⟨by rfl,?_⟩) ?_ ?_
    rotate_left
    ·intro w'
     go_simp
     with_reducible rfl
    rotate_left
    ·simp only[Act.put,List.setIfInBounds_toArray,List.set_cons_zero,List.set_cons_succ,i64_w,i32_w]
     rfl
    refine pure_ (i:=10) (N:=some 46) (v:=?_) (a':=?_) #[true,true,true,true,true,true,true,true,true,true,true,false] rfl rfl (Z6) (fun _ _ _ h=>h) (Or.inl ⟨by rfl,?_⟩) ?_ ?_
    rotate_left
    ·intro w'
     go_simp
     with_reducible rfl
    rotate_left
    ·simp only[Act.put,List.setIfInBounds_toArray,List.set_cons_zero,List.set_cons_succ,i64_w,i32_w]
     rfl
    refine last_ (i:=11) (N:=none) #[true,true,true,true,true,true,true,true,true,true,true,true] rfl rfl (Z6) (Z13) (fun K hK=>?_)
    refine skip_ (w1:=w7.setCell ⟨d,2,none⟩ (.int .i64 (n' + n2))) (by rfl) rfl ?_ ?_
    ·first|(go_simp;done)|(go_simp;rfl)
    refine hK.out _ _ ?_
    clear hK K
    refine done_ (Z6) ?_
    clear hwn z2 c2
    go_wp2
    go_roundg k1
    case measure=>omega
    case rel=>exact⟨i+1,mergeN I' M',mergeN P' MP,n' + n2,by go_num,hlt,⟨Z12⟩,HS8,HT8,HO8⟩
  ·obtain rfl:i=xs.length:=by omega
   go_wp2
   go_end0
   exact⟨rfl,I',P',n',HST.out,HT.out,HO.out⟩
end Go.Proofs.Ythcpdiknejblnaa.Ta
