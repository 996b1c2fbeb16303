import Derived.Test.YthcpdiknejblnaaQdTaD
set_option maxRecDepth 100000
set_option maxHeartbeats 1000000
set_option linter.unusedVariables false
set_option linter.unusedSimpArgs false
namespace Go.Proofs.Ythcpdiknejblnaa.Ta
open Go Go.MapKept Go.RowKit Go.ChangeMaps Mp YthcpdiknejblnaaW.PrintWords YthcpdiknejblnaaW.PrintLast YthcpdiknejblnaaW.PrintMore Rf Aid Hp
variable {w:World} {b c:Nat} {n m:Int}
structure PutS (g b:Nat) (x y gp:Int) (w':World):Prop where
 box:w'.heap[g]?=some (.cells #[.int .i64 x,.int .i64 y] 61 (0,0))
 look:(Instr.lookup 53 (.map (some b)) (.agg #[.int .i64 x,.int .i64 y]) false).run Try.prog w'=.ok (.int .i64 gp) w'
theorem addP_any {I M:List ((Int × Int) × Int)} (hc:Blk encM w b (vL I)) (hm:Blk encM w c (vL M)) (hne:b≠c) (hI:Fine I n) (hM:Fine M m) (hn:n+m≤1000000) :
  Calls Try.prog 33 #[.map (some b),.map (some c)] w fun e w'=>e=.returned (.tuple #[])/\∃ M',M'.Perm M/\Blk encM w' b (vL (mergeN I M'))/\Out b (b+1) w w':=by
 have HC:=As.mk hc
 have HM:=As.mk (show Blk encM w c (vL M) from hm)
 have HF:=As.mk (And.intro hI (And.intro hM hn))
 have HNE:=As.mk hne
 have hbl:=hc.lt
 have hcl:=hm.lt
 clear hc hm hI hM hn hne
 go_enter Try.func33,Try.ntmps33
 go_wp2_with (at_range;refine wpList_range_blk _ rfl _ 53 rfl _ _ Try.underlying53 rfl HM.out ?_;intro ob hrg;have HRG:=As.mk hrg;have HB1:=As.mk (below_alloc (Below.refl w.heap.size w) ob);clear hrg;generalize w.alloc ob=w1 at *)
 go_frame
 go_loopg [] M.length (fun k W=>∃ D R:List ((Int × Int) × Int),(D++R).Perm M/\R.length≤k/\As (Rg encM W c w.heap.size (vL R))/\As (Blk encM W b (vL (mergeN I D)))/\As (Out b (b+1) w W))
 case atStart=>exact⟨[],M,List.Perm.refl _,Nat.le_refl _,HRG,⟨HC.out.of_block (HB1.out.block _ hbl)⟩,⟨Out.of_below HB1.out⟩⟩
 case round =>
  clear HRG HC HB1
  obtain⟨D,R,hp,hk,HR,HC,HO⟩:=hrel
  rename World=>W
  have HP:=As.mk hp
  clear hp
  go_wp2_with (at_next;refine wpList_next_rg _ rfl _ rfl rfl HR.out ?_ ?_)
  ·intro hr
   have hr0:R=[]:=by
    unfold vL at hr
    exact List.map_eq_nil_iff.1 hr
   subst hr0
   have HPE:=As.mk (show D.Perm M from Z14)
   clear hr
   go_wp2
   go_end0
   exact⟨rfl,D,HPE.out,HC.out,HO.out⟩
  ·intro x y xv A B w2 hx hrg hgr hsz hen
   obtain⟨A',⟨⟨x',y'⟩,p2⟩,B',e1,e2,e3⟩:=vL_split hx
   subst e1
   simp only[Prod.mk.injEq]at e2
   obtain⟨⟨rfl,rfl⟩,rfl⟩:=e2
   rw[←e3]at hrg
   have hrn:w.heap.size≠b:=Z0
   have hrb:b<w.heap.size:=hbl
   have HRG:=As.mk hrg
   have HC2:=As.mk (HC.out.of_block (hgr.block _ HC.out.lt (fun e=>by injection e with e;omega)))
   have HO2:=As.mk (HO.out.grown hgr (Nat.le_refl _))
   have hpm:=HP.out
   have hfm:=fine_perm HF.out.2.1 (perm_step hpm)
   have hfd:=fine_mergeN D HF.out.1 (fun q hq=>HF.out.2.1.one q (hpm.mem_iff.1 (List.mem_append_left _ hq)))
   have hg:=hfd.get (x,y)
   have hsd:sumN D≤m:=by
    have h1:=(fine_perm HF.out.2.1 hpm).sum
    rw[sumN_app]at h1
    have h2:=sum_nonneg (l:=A'++((x,y),p2)::B') (fun q hq=>HF.out.2.1.one q (hpm.mem_iff.1 (List.mem_append_right _ hq)))
    omega
   have hp1:=HF.out.2.1.one ((x,y),p2) (hpm.mem_iff.1 (List.mem_append_right _ (by simp)))
   have hp2:=mem_le HF.out.2.1.one ((x,y),p2) (hpm.mem_iff.1 (List.mem_append_right _ (by simp)))
   rw[HF.out.2.1.sum]at hp2
   have HP3:=As.mk (perm_step hpm)
   have hk':(A'++B').length+1≤gk:=Z15
   obtain⟨k1,rfl⟩:∃ k1,gk=k1+1:=⟨gk-1,Z0⟩
   have HWG:=As.mk (show wrap64 (getN (mergeN I D) (x,y)+p2)=getN (mergeN I D) (x,y)+p2 from w64 (Z0) (Z16))
   have HKL:=As.mk hk'
   clear hx hrg hgr e3 hpm hfm hfd hg hsd hp1 hp2 hk hk' HC HO HR HP
   unfold encM at hen
   dsimp only at hen
   go_wp2
   obtain⟨w3,hw3⟩:∃ w3,w3=w2.alloc (.cells #[.int .i64 x,.int .i64 y] 61):=⟨_,rfl⟩
   have hbx:w3.heap[W.heap.size]?=some (.cells #[.int .i64 x,.int .i64 y] 61 (0,0)):=by rw[hw3,←hsz];exact(heap_alloc w2 _).1
   have hB3:Below w2.heap.size w2 w3:=by rw[hw3];exact below_alloc (Below.refl _ _) _
   rw[←hw3]
   have HD4:=As.mk (bt_ hB3 (below_drew1 (Below.refl _ _)))
   have HC4:=As.mk (HC2.out.below HD4.out)
   obtain⟨z,mm,w5,r1,b1,l1,k5⟩:=put_p HC4.out x y
   obtain⟨w6,r2,b2,m2⟩:=k5 p2
   rw[show bump (mergeN I D) (x,y) p2=mergeN I (D++[((x,y),p2)]) from (mergeN_snoc I D ((x,y),p2)).symm]at m2
   have hbn:W.heap.size≠b:=by have:=HC2.out.lt;omega
   have HS4:=As.mk (show PutS W.heap.size b x y (getN (mergeN I D) (x,y)) w3.drew from⟨((below_drew1 (Below.refl w3.heap.size w3)).block _ (lt_of hbx)).trans hbx,look_p HC4.out x y⟩)
   have HS5:=As.mk (show PutS W.heap.size b x y (getN (mergeN I D) (x,y)) w5 from⟨(b1.block _ hbn).trans HS4.out.box,l1 w5 rfl⟩)
   have hrn2:c≠b:=Ne.symm HNE.out
   have HR6:=As.mk (((HRG.out.below HD4.out).but b1 hrn2 hrn).but b2 hrn2 hrn)
   have HM6:=As.mk m2
   have HO6:=As.mk ((HO2.out.trans (Out.of_below HD4.out)).trans ((Out.but b1 (Nat.le_refl _) (Nat.lt_succ_self _)).trans (Out.but b2 (Nat.le_refl _) (Nat.lt_succ_self _))))
   have hwg:=HWG.out
   clear k5 l1 m2 b1 b2 hB3 hbx hw3 HC2 HO2 HRG HWG HC4 HD4 hen
   generalize getN (mergeN I D) (x,y)=gp at *
   refine start_ (n:=8) (S:=PutS W.heap.size b x y gp) (ds:=[7]) #[false,false,false,false,false,false,false,false] (Z6) rfl rfl (HS4.out) (fun hHeld=>?_)
   generalize w3.drew=w4 at *
   refine pure_ (i:=0) (N:=some 13) (v:=?_) (a':=?_) #[true,false,false,false,false,false,false,false] rfl rfl (Z6) (fun _ _ _ h=>h) (Or.inl ⟨by rfl,?_⟩) ?_ ?_
   rotate_left
   ·intro w'
    go_simp
    with_reducible rfl
   rotate_left
   ·simp only[Act.put,List.setIfInBounds_toArray,List.set_cons_zero,List.set_cons_succ,i64_w,i32_w]
    rfl
   refine pure_ (i:=3) (N:=some 16) (v:=?_) (a':=?_) #[true,false,false,true,false,false,false,false] rfl rfl (Z6) (fun _ _ _ h=>h) (Or.inl ⟨by rfl,?_⟩) ?_ ?_
   rotate_left
   ·intro w'
    go_simp
    with_reducible rfl
   rotate_left
   ·simp only[Act.put,List.setIfInBounds_toArray,List.set_cons_zero,List.set_cons_succ,i64_w,i32_w]
    rfl
   refine take_ (i:=1) (N:=some 14) (v:=?_) (a':=?_) #[true,true,false,true,false,false,false,false] rfl rfl (Z6) (fun _ _ _ h=>h) (Or.inl ⟨by rfl,?_⟩) hHeld ?_ ?_
   rotate_left
   ·intro w' hS'
    have s0:=hS'
    have c0:=cell_of (i:=0) hS'.box rfl;have c1:=cell_of (i:=1) hS'.box rfl;go_simp
    with_reducible rfl
   rotate_left
   ·simp only[Act.put,List.setIfInBounds_toArray,List.set_cons_zero,List.set_cons_succ,i64_w,i32_w]
    rfl
   refine take_ (i:=2) (N:=some 15) (v:=?_) (a':=?_) #[true,true,true,true,false,false,false,false] rfl rfl (Z6) (fun _ _ _ h=>h) (Or.inl ⟨by rfl,?_⟩) hHeld ?_ ?_
   rotate_left
   ·intro w' hS'
    have s0:=hS'
    have hlp:=hS'.look;go_simp
    with_reducible rfl
   rotate_left
   ·simp only[Act.put,List.setIfInBounds_toArray,List.set_cons_zero,List.set_cons_succ,i64_w,i32_w]
    rfl
   refine pure_ (i:=4) (N:=some 17) (v:=?_) (a':=?_) #[true,true,true,true,true,false,false,false] rfl rfl (Z6) (fun _ _ _ h=>h) (Or.inl ⟨by rfl,?_⟩) ?_ ?_
   rotate_left
   ·intro w'
    go_simp
    with_reducible rfl
   rotate_left
   ·simp only[Act.put,List.setIfInBounds_toArray,List.set_cons_zero,List.set_cons_succ,i64_w,i32_w]
    rfl
   refine one_ (i:=5) (N:=some 18) #[true,true,true,true,true,true,false,false] rfl rfl (Z6) (Z13) (fun K hK=>?_)
   refine value_ (w1:=w5) (v:=.tuple #[z,.int .i64 mm]) (by rfl) rfl ?_ ?_
   ·first|(go_simp;done)|(go_simp;rfl)
   refine hK.out _ _ (HS5.out) (fun hHeld=>?_)
   clear hK K
   refine norm_ (a':=?_) ?_ ?_
   rotate_left
   ·(simp only[Act.put,List.setIfInBounds_toArray,List.set_cons_zero,List.set_cons_succ];rfl)
   refine pure_ (i:=6) (N:=some 19) (v:=?_) (a':=?_) #[true,true,true,true,true,true,true,false] rfl rfl (Z6) (fun _ _ _ h=>h) (Or.inl ⟨by rfl,?_⟩) ?_ ?_
   rotate_left
   ·intro w'
    go_simp
    with_reducible rfl
   rotate_left
   ·simp only[Act.put,List.setIfInBounds_toArray,List.set_cons_zero,List.set_cons_succ,i64_w,i32_w]
    rfl
   refine last_ (i:=7) (N:=none) #[true,true,true,true,true,true,true,true] rfl rfl (Z6) (Z13) (fun K hK=>?_)
   refine skip_ (w1:=w6) (by rfl) rfl ?_ ?_
   ·first|(go_simp;done)|(go_simp;rfl)
   refine hK.out _ _ ?_
   clear hK K
   refine done_ (Z6) ?_
   clear HS4 HS5 r1 r2 hwg
   go_wp2
   go_roundg k1
   case measure=>omega
   case rel=>exact⟨D++[((x,y),p2)],A'++B',HP3.out,by have:=HKL.out;omega,HR6,HM6,HO6⟩
end Go.Proofs.Ythcpdiknejblnaa.Ta
