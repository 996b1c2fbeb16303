import Derived.BigQuiet
import Derived.Test.YthcpdiknejblnaaQeTaB
set_option maxRecDepth 100000
set_option maxHeartbeats 2000000
set_option linter.unusedVariables false
set_option linter.unusedSimpArgs false
namespace Go.Proofs.Ythcpdiknejblnaa.Ta
open Go Go.MapKept Go.RowKit Go.ChangeMaps Mp YthcpdiknejblnaaW.PrintWords YthcpdiknejblnaaW.PrintLast YthcpdiknejblnaaW.PrintMore Rf Aid Hp
variable {lo hi d bi bp:Nat} {w w':World} {I:List (Int × Int)} {P:List ((Int × Int) × Int)} {n:Int}
structure AddS (W1:World) (d bp:Nat) (y x gp:Int) (A:Option Addr) (ids:List Int) (w':World):Prop where
 blk:w'.heap[d]?=W1.heap[d]?
 look:(Instr.lookup 53 (.map (some bp)) (.agg #[.int .i64 y,.int .i64 x]) false).run Try.prog w'=.ok (.int .i64 gp) w'
 row:Kd.C (Kd.int .i64) w' A ids.length ids
theorem add_any (h:TalAt lo hi w d bi bp I P n) (hI:Fine I n) {m:Int} (hP:Fine P m) (hm:m≤n) (hn:n≤1000000) {A:Option Addr} {c:Nat} {ids:List Int} (hr:∀ W,Out lo hi w W->Kd.C (Kd.int .i64) W A ids.length ids) (hl:ids.length≤4000) (hlo:lo≤w.heap.size) :
  Calls Try.prog 21 #[.pointer (some ⟨d,0,none⟩),.slice A ids.length c] w fun e w'=>e=.returned (.tuple #[])/\TalAt lo hi w' d bi bp (addI I ids) (addP P ids) (n+ids.length)/\Out lo hi w w':=by
 have HT:=As.mk h
 have HR:=As.mk hr
 have HF:=As.mk (And.intro hI (And.intro hP (And.intro hm hn)))
 have hn0:0≤n:=by have:=hI.m0;omega
 clear h hr hI hP hm
 go_enter Try.func21,Try.ntmps21
 go_wp2
 go_loopg [10] ids.length (fun k v10 W=>∃ i:Nat,v10=.int .i64 (i:Int)/\i≤ids.length/\As (ids.length-i≤k)/\As (TalAt lo hi W d bi bp (addI I (ids.take i)) (addP P (ids.take i)) n)/\As (Out lo hi w W))
 case atStart=>exact⟨0,rfl,Nat.zero_le _,⟨Z0⟩,HT,⟨Out.refl _ _ _⟩⟩
 case round =>
  clear HT
  obtain⟨i,rfl,hi',HK,HT,HO⟩:=hrel
  rename World=>W
  by_cases hlt:i<ids.length
  ·have hltI:(i:Int)<(ids.length:Int):=by omega
   obtain⟨k1,rfl⟩:∃ k1,gk=k1+1:=⟨gk-1,Z17⟩
   obtain⟨x,hx⟩:∃ x,ids[i]?=some x:=⟨_,List.getElem?_eq_getElem hlt⟩
   obtain⟨ad,hA,xr⟩:=rd_at (HR.out W HO.out) hx
   have HA:=As.mk hA
   have hnx:=addI_next I hx
   have hfi:=fine_addI (ids.take i) HF.out.1
   rw[List.length_take]at hfi
   have hg:=hfi.get x
   obtain⟨W1,hu,hm1,hb1⟩:=put_i HT.out.ids x 1
   rw[←hnx]at hm1
   have hlk:=look_i HT.out.ids x
   have HT1:=As.mk (HT.out.putI hb1 hm1)
   have HO1:=As.mk (HO.out.trans (Out.but hb1 HT.out.ri.1 HT.out.ri.2))
   have c0:=cell_of (i:=0) HT.out.blk rfl
   have hw:=hg
   have hwg:wrap64 (getN (addI I (ids.take i)) x+1)=getN (addI I (ids.take i)) x+1:=w64 (Z0) (by have:=HF.out.2.2.2;omega)
   have hwi:wrap64 ((i:Int)+1)=(i:Int)+1:=w64 (Z0) (Z0)
   have HX:=As.mk hx
   clear hnx hfi hg hm1 hb1 hx hw HT HO
   generalize getN (addI I (ids.take i)) x=gx at *
   by_cases hz:i=0
   ·subst hz
    have HP0:=As.mk (show addP P (ids.take 1)=addP P (ids.take 0) from addP_one P ids)
    subst hA
    rw[show ad.add 0=ad by unfold Addr.add;cases ad;simp]at xr
    go_wp2
    go_roundg k1
    case measure=>omega
    case rel=>exact⟨1,rfl,hlt,⟨Z17⟩,⟨by rw[HP0.out];exact HT1.out⟩,HO1⟩
   ·obtain⟨j,hj⟩:∃ j,j=i-1:=⟨_,rfl⟩
    have hji:i=j+1:=Z0
    obtain⟨y,hy⟩:∃ y,ids[j]?=some y:=⟨_,List.getElem?_eq_getElem (Z0)⟩
    have hnp:=addP_next P hy (by rw[←hji];exact HX.out)
    have hfp:=fine_addP (ids.take i) HF.out.2.1
    rw[List.length_take]at hfp
    have hg:=hfp.get (y,x)
    rw[show j+2=i+1 from Z0,←hji]at hnp
    have HWG:=As.mk (show wrap64 (getN (addP P (ids.take i)) (y,x)+1)=getN (addP P (ids.take i)) (y,x)+1 from w64 (Z0) (by have h1:=HF.out.2.2.1;have h2:=HF.out.2.2.2;omega))
    have HWJ:=As.mk (show wrap64 ((i:Int)-1)=(j:Int) from (w64 (Z0) (Z0)).trans (Z0))
    have hz0:(0:Int)<(i:Int):=Z0
    have HJL:=As.mk (show j<ids.length from Z0)
    have HY:=As.mk hy
    have HNP:=As.mk hnp
    have HG:=As.mk hg
    clear hnp hfp hg hy hji hj hz
    have hjl:=HJL.out
    subst hA
    go_wp2
    have hwj:=HWJ.out
    have HD2:=As.mk (below_drew1 (Below.refl W1.heap.size W1))
    have HT2:=As.mk (HT1.out.below HD2.out)
    have HO2:=As.mk (HO1.out.trans (Out.of_below HD2.out))
    obtain⟨z,mm,W3,r1,b1,l1,k1⟩:=put_p HT2.out.prs y x
    obtain⟨W4,r2,b2,m2⟩:=k1 1
    rw[←HNP.out]at m2
    have HT4:=As.mk (HT2.out.putP (b1.trans b2) m2)
    have HO3:=As.mk (HO2.out.trans (Out.but b1 HT2.out.rp.1 HT2.out.rp.2))
    have HO4:=As.mk (HO3.out.trans (Out.but b2 HT2.out.rp.1 HT2.out.rp.2))
    have HS2:=As.mk (show AddS W1 d bp y x (getN (addP P (ids.take i)) (y,x)) (some ad) ids W1.drew from⟨rfl,look_p HT2.out.prs y x,HR.out _ HO2.out⟩)
    have HS3:=As.mk (show AddS W1 d bp y x (getN (addP P (ids.take i)) (y,x)) (some ad) ids W3 from⟨b1.block _ (Ne.symm HT2.out.nep),l1 W3 rfl,HR.out _ HO3.out⟩)
    clear k1 l1 m2 b1 b2
    have hwg2:=HWG.out
    clear HWG HG HNP
    generalize getN (addP P (ids.take i)) (y,x)=gp at *
    refine start_ (n:=16) (S:=AddS W1 d bp y x gp (some ad) ids) (ds:=[15]) #[false,false,false,false,false,false,false,false,false,false,false,false,false,false,false,false] (Z5) rfl rfl (HS2.out) (fun hHeld=>?_)
    generalize W1.drew=W2 at *
    refine pure_ (i:=0) (N:=some 24) (v:=?_) (a':=?_) #[true,false,false,false,false,false,false,false,false,false,false,false,false,false,false,false] rfl rfl (Z5) (fun _ _ _ h=>h) (Or.inl ⟨by rfl,?_⟩) ?_ ?_
    rotate_left
    ·intro w'
     go_simp
     with_reducible rfl
    rotate_left
    ·simp only[Act.put,List.setIfInBounds_toArray,List.set_cons_zero,List.set_cons_succ,i64_w,i32_w]
     rfl
    refine pure_ (i:=1) (N:=some 25) (v:=?_) (a':=?_) #[true,true,false,false,false,false,false,false,false,false,false,false,false,false,false,false] rfl rfl (Z5) (fun _ _ _ h=>h) (Or.inl ⟨by rfl,?_⟩) ?_ ?_
    rotate_left
    ·intro w'
     go_simp
     with_reducible rfl
    rotate_left
    ·simp only[Act.put,List.setIfInBounds_toArray,List.set_cons_zero,List.set_cons_succ,i64_w,i32_w]
     rfl
    refine pure_ (i:=2) (N:=some 26) (v:=?_) (a':=?_) #[true,true,true,false,false,false,false,false,false,false,false,false,false,false,false,false] rfl rfl (Z5) (fun _ _ _ h=>h) (Or.inl ⟨by rfl,?_⟩) ?_ ?_
    rotate_left
    ·intro w'
     go_simp
     with_reducible rfl
    rotate_left
    ·simp only[Act.put,List.setIfInBounds_toArray,List.set_cons_zero,List.set_cons_succ,i64_w,i32_w]
     rfl
    refine pure_ (i:=4) (N:=some 28) (v:=?_) (a':=?_) #[true,true,true,false,true,false,false,false,false,false,false,false,false,false,false,false] rfl rfl (Z5) (fun _ _ _ h=>h) (Or.inl ⟨by rfl,?_⟩) ?_ ?_
    rotate_left
    ·intro w'
     go_simp
     with_reducible rfl
    rotate_left
    ·simp only[Act.put,List.setIfInBounds_toArray,List.set_cons_zero,List.set_cons_succ,i64_w,i32_w]
     rfl
    refine pure_ (i:=5) (N:=some 29) (v:=?_) (a':=?_) #[true,true,true,false,true,true,false,false,false,false,false,false,false,false,false,false] rfl rfl (Z5) (fun _ _ _ h=>h) (Or.inl ⟨by rfl,?_⟩) ?_ ?_
    rotate_left
    ·intro w'
     go_simp
     with_reducible rfl
    rotate_left
    ·simp only[Act.put,List.setIfInBounds_toArray,List.set_cons_zero,List.set_cons_succ,i64_w,i32_w]
     rfl
    refine pure_ (i:=6) (N:=some 30) (v:=?_) (a':=?_) #[true,true,true,false,true,true,true,false,false,false,false,false,false,false,false,false] rfl rfl (Z5) (fun _ _ _ h=>h) (Or.inl ⟨by rfl,?_⟩) ?_ ?_
    rotate_left
    ·intro w'
     go_simp
     with_reducible rfl
    rotate_left
    ·simp only[Act.put,List.setIfInBounds_toArray,List.set_cons_zero,List.set_cons_succ,i64_w,i32_w]
     rfl
    refine pure_ (i:=7) (N:=some 31) (v:=?_) (a':=?_) #[true,true,true,false,true,true,true,true,false,false,false,false,false,false,false,false] rfl rfl (Z5) (fun _ _ _ h=>h) (Or.inl ⟨by rfl,?_⟩) ?_ ?_
    rotate_left
    ·intro w'
     go_simp
     with_reducible rfl
    rotate_left
    ·simp only[Act.put,List.setIfInBounds_toArray,List.set_cons_zero,List.set_cons_succ,i64_w,i32_w]
     rfl
    refine pure_ (i:=9) (N:=some 33) (v:=?_) (a':=?_) #[true,true,true,false,true,true,true,true,false,true,false,false,false,false,false,false] rfl rfl (Z5) (fun _ _ _ h=>h) (Or.inl ⟨by rfl,?_⟩) ?_ ?_
    rotate_left
    ·intro w'
     go_simp
     with_reducible rfl
    rotate_left
    ·simp only[Act.put,List.setIfInBounds_toArray,List.set_cons_zero,List.set_cons_succ,i64_w,i32_w]
     rfl
    refine take_ (i:=3) (N:=some 27) (v:=?_) (a':=?_) #[true,true,true,true,true,true,true,true,false,true,false,false,false,false,false,false] rfl rfl (Z5) (fun _ _ _ h=>h) (Or.inl ⟨by rfl,?_⟩) hHeld ?_ ?_
    rotate_left
    ·intro w' hS'
     have s0:=hS'
     have c1:=cell_of (i:=1) (hS'.blk.trans HT1.out.blk) rfl;go_simp
     with_reducible rfl
    rotate_left
    ·simp only[Act.put,List.setIfInBounds_toArray,List.set_cons_zero,List.set_cons_succ,i64_w,i32_w]
     rfl
    refine take_ (i:=8) (N:=some 32) (v:=?_) (a':=?_) #[true,true,true,true,true,true,true,true,true,true,false,false,false,false,false,false] rfl rfl (Z5) (fun _ _ _ h=>h) (Or.inl ⟨by rfl,?_⟩) hHeld ?_ ?_
    rotate_left
    ·intro w' hS'
     have s0:=hS'
     obtain⟨ad',hA',yr⟩:=rd_at hS'.row HY.out;injection hA' with hA';subst hA';go_simp
     with_reducible rfl
    rotate_left
    ·simp only[Act.put,List.setIfInBounds_toArray,List.set_cons_zero,List.set_cons_succ,i64_w,i32_w]
     rfl
    refine pure_ (i:=10) (N:=some 34) (v:=?_) (a':=?_) #[true,true,true,true,true,true,true,true,true,true,true,false,false,false,false,false] rfl rfl (Z5) (fun _ _ _ h=>h) (Or.inl ⟨by rfl,?_⟩) ?_ ?_
    rotate_left
    ·intro w'
     go_simp
     with_reducible rfl
    rotate_left
    ·simp only[Act.put,List.setIfInBounds_toArray,List.set_cons_zero,List.set_cons_succ,i64_w,i32_w]
     rfl
    refine take_ (i:=11) (N:=some 35) (v:=?_) (a':=?_) #[true,true,true,true,true,true,true,true,true,true,true,true,false,false,false,false] rfl rfl (Z5) (fun _ _ _ h=>h) (Or.inl ⟨by rfl,?_⟩) hHeld ?_ ?_
    rotate_left
    ·intro w' hS'
     have s0:=hS'
     have hlp:=hS'.look;go_simp
     with_reducible rfl
    rotate_left
    ·simp only[Act.put,List.setIfInBounds_toArray,List.set_cons_zero,List.set_cons_succ,i64_w,i32_w]
     rfl
    refine pure_ (i:=12) (N:=some 36) (v:=?_) (a':=?_) #[true,true,true,true,true,true,true,true,true,true,true,true,true,false,false,false] rfl rfl (Z5) (fun _ _ _ h=>h) (Or.inl ⟨by rfl,?_⟩) ?_ ?_
    rotate_left
    ·intro w'
     go_simp
     with_reducible rfl
    rotate_left
    ·simp only[Act.put,List.setIfInBounds_toArray,List.set_cons_zero,List.set_cons_succ,i64_w,i32_w]
     rfl
    refine one_ (i:=13) (N:=some 37) #[true,true,true,true,true,true,true,true,true,true,true,true,true,true,false,false] rfl rfl (Z5) (Z18) (fun K hK=>?_)
    refine value_ (w1:=W3) (v:=.tuple #[z,.int .i64 mm]) (by rfl) rfl ?_ ?_
    ·first|(go_simp;done)|(go_simp;rfl)
    refine hK.out _ _ (HS3.out) (fun hHeld=>?_)
    clear hK K
    refine norm_ (a':=?_) ?_ ?_
    rotate_left
    ·(simp only[Act.put,List.setIfInBounds_toArray,List.set_cons_zero,List.set_cons_succ];rfl)
    refine pure_ (i:=14) (N:=some 38) (v:=?_) (a':=?_) #[true,true,true,true,true,true,true,true,true,true,true,true,true,true,true,false] rfl rfl (Z5) (fun _ _ _ h=>h) (Or.inl ⟨by rfl,?_⟩) ?_ ?_
    rotate_left
    ·intro w'
     go_simp
     with_reducible rfl
    rotate_left
    ·simp only[Act.put,List.setIfInBounds_toArray,List.set_cons_zero,List.set_cons_succ,i64_w,i32_w]
     rfl
    refine last_ (i:=15) (N:=none) #[true,true,true,true,true,true,true,true,true,true,true,true,true,true,true,true] rfl rfl (Z5) (Z18) (fun K hK=>?_)
    refine skip_ (w1:=W4) (by rfl) rfl ?_ ?_
    ·first|(go_simp;done)|(go_simp;rfl)
    refine hK.out _ _ ?_
    clear hK K
    refine done_ (Z5) ?_
    clear HS2 HS3 HT2 HO2 HO3 r1 r2 hwg2 hwj
    go_wp2
    go_roundg k1
    case measure=>omega
    case rel=>exact⟨i+1,by go_num,hlt,⟨Z17⟩,HT4,HO4⟩
  ·obtain rfl:i=ids.length:=by omega
   have hT:=HT.out
   rw[List.take_length]at hT
   have c2:=cell_of (i:=2) hT.blk rfl
   have f2:=frozen_of hT.blk 2
   have hwn:wrap64 (n+(ids.length:Int))=n+(ids.length:Int):=w64 (Z0) (Z0)
   have HT2:=As.mk (hT.putN (n+(ids.length:Int)))
   have HO2:=As.mk (HO.out.trans (Out.set W (a:=⟨d,2,none⟩) hT.rd.1 hT.rd.2 (.int .i64 (n+(ids.length:Int)))))
   clear hT HT HO
   go_wp2
   go_end0
   exact⟨rfl,HT2.out,HO2.out⟩
end Go.Proofs.Ythcpdiknejblnaa.Ta
