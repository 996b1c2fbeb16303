import Derived.Test.YthcpdiknejblnaaQeTaJ
import Derived.Test.YthcpdiknejblnaaQeTaK
set_option maxRecDepth 100000
set_option maxHeartbeats 1000000
set_option linter.unusedVariables false
set_option linter.unusedSimpArgs false
namespace Go.Proofs.Ythcpdiknejblnaa.Ta
open Go Go.MapKept Go.RowKit Go.ChangeMaps Mp YthcpdiknejblnaaW.PrintWords YthcpdiknejblnaaW.PrintLast YthcpdiknejblnaaW.PrintMore Rf Aid Hp
theorem at_sl {w:World} {A:Option Addr} {n:Nat} {l:List (List Int)} (h:Kd.C (Kd.slice 3 (Kd.int .i64)) w A n l) {i:Nat} (hi:i<l.length) :
  ∃ ad A' c',A=some ad/\w.cell? (ad.add i)=some (.slice A' (l[i]).length c')/\(l[i]).length≤c'/\Kd.C (Kd.int .i64) w A' (l[i]).length l[i]:=by
 have hn:l.length=n:=h.1
 obtain⟨ad,c,e,_,hK,hc⟩:=Kd.C_get h [] (i:Int) (Z0) (Z0)
 rw[Int.toNat_natCast,List.getD_eq_getElem?_getD,List.getElem?_eq_getElem hi]at hK
 obtain⟨A',c',e',h1,h2⟩:=hK
 have e'':c=[.slice A' (l[i]).length c']:=e'
 subst e''
 refine⟨ad,A',c',e,?_,h1,h2⟩
 have h3:=hc 0 _ rfl
 rw[Int.toNat_natCast]at h3
 have e2:i * (Kd.slice 3 (Kd.int .i64)).sz+0=i:=by show i * 1+0=i;omega
 rw[e2]at h3
 exact h3
theorem of_any {A:Option Addr} {c:Nat} {l:List (List Int)} {w:World} (hr:Kd.C (Kd.slice 3 (Kd.int .i64)) w A l.length l) (hl:l.length≤30) (hm:∀ r∈l,r.length≤30) :
  Calls Try.prog 9 #[.slice A l.length c] w fun e w'=>∃ d bi bp hi,e=.returned (.pointer (some ⟨d,0,none⟩))/\hi≤w'.heap.size/\TalAt w.heap.size hi w' d bi bp (ofI l) (ofP l) ((totL l:Nat):Int)/\Below w.heap.size w w':=by
 have HR:=As.mk hr
 have HM:=As.mk hm
 have ht:=tot_le hm
 have HTT:=As.mk (show totL l≤900 from Z0)
 clear hr hm ht
 go_enter Try.func9,Try.ntmps9
 go_wp2_with (go_at_call 22;refine(new_any _).mono ?_;rintro e w1 ⟨d,bi,bp,rfl,ht,hb⟩;have HT1:=As.mk ht;have HB1:=As.mk hb;clear ht hb)
 go_loopg [4] l.length (fun k v4 W=>∃ i:Nat,v4=.int .i64 (i:Int)/\i≤l.length/\As (l.length-i≤k)/\As (TalAt w.heap.size w1.heap.size W d bi bp (ofI (l.take i)) (ofP (l.take i)) ((totL (l.take i):Nat):Int))/\As (Below w.heap.size w W)/\As (w1.heap.size≤W.heap.size))
 case atStart=>exact⟨0,rfl,Nat.zero_le _,⟨Z0⟩,HT1,HB1,⟨Nat.le_refl _⟩⟩
 case round =>
  clear HT1 HB1
  obtain⟨i,rfl,hi,HK,HT,HB,HS⟩:=hrel
  rename World=>W
  by_cases hlt:i<l.length
  ·have hltI:(i:Int)<(l.length:Int):=by omega
   obtain⟨k1,rfl⟩:∃ k1,gk=k1+1:=⟨gk-1,Z17⟩
   obtain⟨ad,Ai,ci,rfl,x0,hci,hCi⟩:=at_sl HR.out hlt
   have xr:=pw_cell_below HB.out x0
   have hx:l[i]?=some l[i]:=List.getElem?_eq_getElem hlt
   have HX:=As.mk (And.intro (ofI_snoc (l.take i) l[i]) (And.intro (ofP_snoc (l.take i) l[i]) (totL_snoc (l.take i) l[i])))
   rw[←take_snoc hx]at HX
   have HRL:=As.mk (HM.out _ (List.mem_of_getElem? hx))
   have htk:=tot_take l i
   have HA:=As.mk (add_any HT.out (fine_ofI (l.take i)) (fine_ofP (l.take i)) (by have:=sid_tot (l.take i);omega) (by have:=HTT.out;omega) (A:=Ai) (c:=ci) (ids:=l[i]) (fun W' o=>Kd.C_below hCi (HB.out.trans (o.below HB.out.size))) (by have:=HRL.out;omega) HB.out.size)
   have hwi:wrap64 ((i:Int)+1)=(i:Int)+1:=w64 (Z0) (Z0)
   clear hx x0 hci hCi htk
   generalize l[i]=r at *
   go_wp2_with (go_at_call 21;refine HA.out.mono ?_;rintro e w2 ⟨rfl,ht,ho⟩;have HT2:=As.mk ht;have HB2:=As.mk (HB.out.trans (ho.below HB.out.size));have HS2:=As.mk (Nat.le_trans HS.out ho.size);clear ht ho xr)
   go_roundg k1
   case measure=>omega
   case rel=>exact⟨i+1,by go_num,Z0,⟨Z17⟩,⟨by rw[HX.out.1,HX.out.2.1,HX.out.2.2];have h:=HT2.out;rw[show ((totL (l.take i)+r.length:Nat):Int)=((totL (l.take i):Nat):Int)+(r.length:Int) from Z0];exact h⟩,HB2,HS2⟩
  ·obtain rfl:i=l.length:=by omega
   have hT:=HT.out
   rw[List.take_length]at hT
   have HTE:=As.mk hT
   clear hT
   go_wp2
   go_ret
   exact⟨d,bi,bp,_,rfl,HS.out,HTE.out,HB.out⟩
theorem ent_eq (x:S32) (W:World):(Op.equal 32 (.agg #[.int .i64 x.f0,.int .i64 x.f1]) (.agg #[.int .i64 x.f0,.int .i64 x.f1])).run Try.prog W=.ok true W:=by
 have hS:Try.prog.underlying 32=some (.struct (Try.prog.fieldsOf 32)):=Z5
 have hp:Try.prog.stoodInHeld 32=false:=Z5
 have u3:=Try.underlying3
 have a3:=Try.isAgg3
 have z3:=Try.sizeOf3
 unfold Op.equal
 rw[show Op.maxDepth=9999+1 from rfl,run_equalIn_agg W 9999 32 _ _ hS hp]
 simp only[Program.fieldsOf,Try.underlying32]
 go_simp
theorem ent_eql (a b:Int) (W:World):(binOp BinOp.eql 32 (.agg #[.int .i64 a,.int .i64 b]) (.agg #[.int .i64 a,.int .i64 b])).run Try.prog W=.ok (.bool true) W:=by
 have h:=ent_eq ⟨a,b⟩ W
 simp only at h
 simp[binOp,h,Result.andThen]
theorem ent_cells {w:World} {base n c:Nat} {ok:Nat->Prop} {A:Option Addr} {l:List S32} (h:Kd.R k32 32 w base ok (.slice A n c) l) {i:Nat} {x:S32} (hx:l[i]?=some x) :
  ∃ g,A=some ⟨g,0,none⟩/\w.cell? ⟨g,i * 2,none⟩=some (.int .i64 x.f0)/\w.cell? ⟨g,i * 2+1,none⟩=some (.int .i64 x.f1):=by
 obtain⟨hl,_⟩:=List.getElem?_eq_some_iff.1 hx
 obtain⟨g,c',e',_⟩:=Kd.R_form h (Z0)
 injection e' with e1 e2 e3
 subst e1
 obtain⟨h1,h2,h3⟩:=(Kd.R_reads' h).2.2
 obtain⟨ad,e,hc⟩:=h3 (Z0)
 injection e with e
 subst e
 obtain⟨cs,q1,q2,q3⟩:=hc i x hx
 have q2':=k32_open q2
 subst q2'
 have r:∀ (j:Nat) (u:Value),([Value.int .i64 x.f0,.int .i64 x.f1]:List Value)[j]?=some u->w.cell? ⟨g,i * 2+j,none⟩=some u:=fun j u hu=>by
  have r0:=q3 j u hu
  rw[show (⟨g,0,none⟩:Addr).add (i * k32.sz+j)=⟨g,i * 2+j,none⟩ by
   rw[show k32.sz=2 from rfl]
   unfold Addr.add
   split <;> simp_all]at r0
  exact r0
 exact⟨g,rfl,r 0 _ rfl,r 1 _ rfl⟩
theorem awk_top:firstN (topE (addI [] [5,6,5])) 1=[⟨5,2⟩]:=by
 have h1:(addI [] [5,6,5]).map toE=[⟨5,2⟩,⟨6,1⟩]:=Z5
 have h2:topE (addI [] [5,6,5])=[⟨5,2⟩,⟨6,1⟩]:=by
  unfold topE
  rw[h1]
  refine List.Perm.eq_of_pairwise (le:=fun a b=>leE a b=true) (fun x y _ _ h1 h2=>?_) (sortedE _) ?_ (List.mergeSort_perm _ _)
  ·unfold leE at h1 h2
   simp only[Bool.not_eq_true']at h1 h2
   exact antiE x y h2 h1
  ·simp[leE,ltE]
 rw[h2]
 rfl
theorem row3 {W:World} (a b c:Int):Kd.R (Kd.int .i64) 3 (W.alloc (.cells #[.int .i64 a,.int .i64 b,.int .i64 c] 3)) W.heap.size (fun _=>True) (.slice (some ⟨W.heap.size,0,none⟩) 3 3) [a,b,c]:=Kd.R_of_own (own_lit W W.heap.size 3 .i64 [a,b,c] (Nat.le_refl _) (by simp)) (fun _ _=>trivial)
theorem awake_any (w:World):Calls Try.prog 8 #[] w fun e w'=>e=.returned (.bool true)/\Below w.heap.size w w':=by
 go_enter Try.func8,Try.ntmps8
 go_wp2_with (go_at_call 22;refine(new_any _).mono ?_;rintro e w1 ⟨d,bi,bp,rfl,ht,hb⟩;have HT1:=As.mk ht;have HB1:=As.mk hb;clear ht hb)
 have HBA:=As.mk (below_alloc (Below.refl w1.heap.size w1) (.cells #[.int .i64 5,.int .i64 6,.int .i64 5] 3))
 have HADD:=As.mk (add_any (HT1.out.below HBA.out) Fine.nil Fine.nil (Int.le_refl _) (Z0) (A:=some ⟨w1.heap.size,0,none⟩) (c:=3) (ids:=[5,6,5]) (fun W o=>(Kd.R_reads' (Kd.R_mono (Kd.R_move (Kd.R_bound (row3 (W:=w1) 5 6 5)) (fun j hj=>o.block j hj.2.2.1 (.inr hj.2.1))) (fun _ _=>trivial))).2.2) (by simp) (Nat.le_trans HB1.out.size HBA.out.size))
 go_wp2_with (first
  | (go_at_call 21;go_loud (refine HADD.out.mono ?_;rintro e w2 ⟨rfl,ht,ho⟩;have HT2:=As.mk ht;have HB2:=As.mk ((HB1.out.trans (HBA.out.mono HB1.out.size)).trans (ho.below (Nat.le_trans HB1.out.size HBA.out.size)));clear ht ho HADD))
  | (go_at_call 10;go_loud (refine(topE_any HT2.out (n:=3) (show Fine (addI [] [5,6,5]) 3 from fine_addI [5,6,5] Fine.nil) (Z0) 1).mono ?_;rintro e w3 ⟨v,rfl,ho,hb⟩;rw[awk_top]at ho;obtain⟨A3,c3,rfl⟩:=Kd.R_slice ho;obtain⟨g3,rfl,x0,x1⟩:=ent_cells ho (i:=0) rfl;have HT3:=As.mk (HT2.out.below hb);have HB3:=As.mk (HB2.out.trans (hb.mono HB2.out.size));clear ho hb;have heq:=ent_eql 5 2))
  | (go_at_call 18;go_loud (refine(behind_any HT3.out 5 6).mono ?_;rintro e w4 ⟨rfl,rfl⟩)))
 go_ret
 exact⟨rfl,HB3.out⟩
end Go.Proofs.Ythcpdiknejblnaa.Ta
