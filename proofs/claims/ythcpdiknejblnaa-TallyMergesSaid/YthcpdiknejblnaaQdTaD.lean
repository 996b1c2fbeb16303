import Derived.Test.YthcpdiknejblnaaQdTaC
set_option maxRecDepth 100000
set_option maxHeartbeats 1000000
set_option linter.unusedVariables false
set_option linter.unusedSimpArgs false
namespace Go.Proofs.Ythcpdiknejblnaa.Ta
open Go Go.MapKept Go.RowKit Go.ChangeMaps Mp YthcpdiknejblnaaW.PrintWords YthcpdiknejblnaaW.PrintLast YthcpdiknejblnaaW.PrintMore Rf Aid Hp
theorem vL_split {κ:Type} {l:List (κ × Int)} {A B:List (κ × Value)} {p:κ × Value} (h:vL l=A++p::B):∃ A' p' B',l=A'++p'::B'/\p=(p'.1,.int .i64 p'.2)/\vL (A'++B')=A++B:=by
 unfold vL at h
 obtain⟨l1,l2,e1,e2,e3⟩:=List.map_eq_append_iff.1 h
 obtain⟨p',l3,e4,e5,e6⟩:=List.map_eq_cons_iff.1 e3
 subst e4
 refine⟨l1,p',l3,e1,e5.symm,?_⟩
 unfold vL
 rw[List.map_append,e2,e6]
theorem Out.grown {lo hi:Nat} {a b c:World} (h:Out lo hi a b) {r:Nat} (hg:b.grownBy c (some r)) (hr:a.heap.size≤r):Out lo hi a c :=
 ⟨hg.os.trans h.os,hg.tape.trans h.tape,hg.output.trans h.output,Nat.le_trans h.size hg.size,fun k hk ho=>(hg.block k (Nat.lt_of_lt_of_le hk h.size) (fun e=>by injection e with e;omega)).trans (h.block k hk ho)⟩
theorem Rg.but {κ:Type} [DecidableEq κ] {enc:κ->Value} {w w':World} {b r c:Nat} {rest:List (κ × Value)} (h:Rg enc w b r rest) (hb:But c w w') (h1:b≠c) (h2:r≠c):Rg enc w' b r rest:=h.of_blocks (hb.block _ h1) (hb.block _ h2)
theorem mergeN_snoc {κ:Type} [DecidableEq κ] (c d:List (κ × Int)) (p:κ × Int):mergeN c (d++[p])=bump (mergeN c d) p.1 p.2:=by
 unfold mergeN
 rw[List.foldl_append]
 rfl
theorem perm_step {κ:Type} {M D A B:List (κ × Int)} {p:κ × Int} (h:(D++(A++p::B)).Perm M):((D++[p])++(A++B)).Perm M:=by
 refine List.Perm.trans ?_ h
 rw[List.append_assoc]
 exact List.Perm.append_left D (List.perm_middle (a:=p) (l₁:=A) (l₂:=B)).symm
theorem sumN_perm {κ:Type} [DecidableEq κ] {a b:List (κ × Int)} (h:a.Perm b):sumN a=sumN b:=by
 induction h with
 | nil=>rfl
 | cons x _ ih=>rw[sumN_cons,sumN_cons,ih]
 | swap x y l=>rw[sumN_cons,sumN_cons,sumN_cons,sumN_cons];omega
 | trans _ _ h1 h2=>rw[h1,h2]
theorem fine_perm {κ:Type} [DecidableEq κ] {a b:List (κ × Int)} {m:Int} (h:Fine b m) (hp:a.Perm b):Fine a m :=
 ⟨(hp.map (·.1)).nodup_iff.2 h.nd,fun p hq=>h.one p (hp.mem_iff.1 hq),(sumN_perm hp).trans h.sum⟩
variable {w:World} {b c:Nat} {n m:Int}
theorem addI_any {I M:List (Int × Int)} (hc:MapIs encInt w b (vL I)) (hm:MapIs encInt w c (vL M)) (hne:b≠c) (hI:Fine I n) (hM:Fine M m) (hn:n+m≤1000000) :
  Calls Try.prog 31 #[.map (some b),.map (some c)] w fun e w'=>e=.returned (.tuple #[])/\∃ M',M'.Perm M/\MapIs encInt w' b (vL (mergeN I M'))/\Out b (b+1) w w':=by
 have HC:=As.mk hc
 have HM:=As.mk (show Blk encInt.enc w c (vL M) from hm)
 have HF:=As.mk (And.intro hI (And.intro hM hn))
 have HNE:=As.mk hne
 have hbl:=hc.lt
 have hcl:=hm.lt
 clear hc hm hI hM hn hne
 go_enter Try.func31,Try.ntmps31
 go_wp2_with (at_range;refine wpList_range_blk _ rfl _ 51 rfl _ _ Try.underlying51 rfl HM.out ?_;intro ob hrg;have HRG:=As.mk hrg;have HB1:=As.mk (below_alloc (Below.refl w.heap.size w) ob);clear hrg;generalize w.alloc ob=w1 at *)
 go_frame
 go_loopg [] M.length (fun k W=>∃ D R:List (Int × Int),(D++R).Perm M/\R.length≤k/\As (Rg encInt.enc W c w.heap.size (vL R))/\As (MapIs encInt W b (vL (mergeN I D)))/\As (Out b (b+1) w W))
 case atStart=>exact⟨[],M,List.Perm.refl _,Nat.le_refl _,HRG,⟨HC.out.of_block (HB1.out.block _ hbl)⟩,⟨Out.of_below HB1.out⟩⟩
 case round =>
  clear HRG HC HB1
  obtain⟨D,R,hp,hk,HR,HC,HO⟩:=hrel
  rename World=>W
  have HP:=As.mk hp
  clear hp
  go_wp2_with (at_next;refine wpList_next_rg _ rfl _ rfl rfl HR.out ?_ ?_)
  ·intro hr
   have hr0:R=[]:=by
    unfold vL at hr
    exact List.map_eq_nil_iff.1 hr
   subst hr0
   have HPE:=As.mk (show D.Perm M from Z14)
   clear hr
   go_wp2
   go_end0
   exact⟨rfl,D,HPE.out,HC.out,HO.out⟩
  ·intro x xv A B w2 hx hrg hgr hsz hen
   obtain⟨A',p,B',e1,e2,e3⟩:=vL_split hx
   subst e1
   injection e2 with e2a e2b
   subst e2a
   subst e2b
   rw[←e3]at hrg
   have hrn:w.heap.size≠b:=Z0
   have hrb:b<w.heap.size:=hbl
   have HRG:=As.mk hrg
   have HC2:=As.mk (HC.out.of_block (hgr.block _ HC.out.lt (fun e=>by injection e with e;omega)))
   have HO2:=As.mk (HO.out.grown hgr (Nat.le_refl _))
   have hpm:=HP.out
   have hfm:=fine_perm HF.out.2.1 (perm_step hpm)
   have hfd:=fine_mergeN D HF.out.1 (fun q hq=>HF.out.2.1.one q (hpm.mem_iff.1 (List.mem_append_left _ hq)))
   have hg:=hfd.get p.1
   have hsd:sumN D≤m:=by
    have h1:=(fine_perm HF.out.2.1 hpm).sum
    rw[sumN_app]at h1
    have h2:=sum_nonneg (l:=A'++p::B') (fun q hq=>HF.out.2.1.one q (hpm.mem_iff.1 (List.mem_append_right _ hq)))
    omega
   have hp1:=HF.out.2.1.one p (hpm.mem_iff.1 (List.mem_append_right _ (by simp)))
   have hp2:=mem_le HF.out.2.1.one p (hpm.mem_iff.1 (List.mem_append_right _ (by simp)))
   rw[HF.out.2.1.sum]at hp2
   obtain⟨w3,hu,hm3,hb3⟩:=put_i HC2.out p.1 p.2
   rw[←mergeN_snoc]at hm3
   have hlk:=look_i HC2.out p.1
   have HP3:=As.mk (perm_step hpm)
   have hk':(A'++B').length+1≤gk:=Z15
   obtain⟨k1,rfl⟩:∃ k1,gk=k1+1:=⟨gk-1,Z0⟩
   have HR3:=As.mk (HRG.out.but hb3 (Ne.symm HNE.out) hrn)
   have HO3:=As.mk (HO2.out.trans (Out.but hb3 (Nat.le_refl _) (Nat.lt_succ_self _)))
   have HM3:=As.mk hm3
   have hwg:wrap64 (getN (mergeN I D) p.1+p.2)=getN (mergeN I D) p.1+p.2:=w64 (Z0) (Z16)
   have HKL:=As.mk hk'
   obtain⟨p1,p2⟩:=p
   clear hx hrg hgr hsz e3 hpm hfm hfd hg hsd hp1 hp2 hm3 hb3 hk hk' HC HO HR HRG HC2 HO2 HP
   dsimp only at hen hu hlk hwg
   unfold encInt at hen
   dsimp only at hen
   generalize getN (mergeN I D) p1=gp at *
   go_wp2
   go_roundg k1
   case measure=>omega
   case rel=>exact⟨D++[(p1,p2)],A'++B',HP3.out,by have:=HKL.out;omega,HR3,HM3,HO3⟩
end Go.Proofs.Ythcpdiknejblnaa.Ta
