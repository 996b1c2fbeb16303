import Derived.Test.YthcpdiknejblnaaQnTaJ
import Derived.Test.YthcpdiknejblnaaQnTaK
set_option maxRecDepth 100000
set_option maxHeartbeats 1000000
set_option linter.unusedVariables false
set_option linter.unusedSimpArgs false
namespace Go.Proofs.Ythcpdiknejblnaa.Ta
open Go Go.MapKept Go.RowKit Go.ChangeMaps Mp YthcpdiknejblnaaW.PrintWords YthcpdiknejblnaaW.PrintLast YthcpdiknejblnaaW.PrintMore Rf Aid Hp
theorem dr_below {w w':World} (h:Drawn w w'):Below w.heap.size w w':=by
 obtain⟨n,rfl⟩:=h
 exact pw_below_drewN (Below.refl _ _) n
theorem ent_eq (x:S32) (W:World):(Op.equal 32 (.agg #[.int .i64 x.f0,.int .i64 x.f1]) (.agg #[.int .i64 x.f0,.int .i64 x.f1])).run Try.prog W=.ok true W:=by
 have hS:Try.prog.underlying 32=some (.struct (Try.prog.fieldsOf 32)):=Z5
 have hp:Try.prog.stoodInHeld 32=false:=Z5
 have u3:=Try.underlying3
 have a3:=Try.isAgg3
 have z3:=Try.sizeOf3
 unfold Op.equal
 rw[show Op.maxDepth=9999+1 from rfl,run_equalIn_agg W 9999 32 _ _ hS hp]
 simp only[Program.fieldsOf,Try.underlying32]
 go_simp
theorem ent_eql (a b:Int) (W:World):(binOp BinOp.eql 32 (.agg #[.int .i64 a,.int .i64 b]) (.agg #[.int .i64 a,.int .i64 b])).run Try.prog W=.ok (.bool true) W:=by
 have h:=ent_eq ⟨a,b⟩ W
 simp only at h
 simp[binOp,h,Result.andThen]
theorem ent_cells {w:World} {base n c:Nat} {ok:Nat->Prop} {A:Option Addr} {l:List S32} (h:Kd.R k32 32 w base ok (.slice A n c) l) {i:Nat} {x:S32} (hx:l[i]?=some x) :
  ∃ g,A=some ⟨g,0,none⟩/\w.cell? ⟨g,i * 2,none⟩=some (.int .i64 x.f0)/\w.cell? ⟨g,i * 2+1,none⟩=some (.int .i64 x.f1):=by
 obtain⟨hl,_⟩:=List.getElem?_eq_some_iff.1 hx
 obtain⟨g,c',e',_⟩:=Kd.R_form h (Z0)
 injection e' with e1 e2 e3
 subst e1
 obtain⟨h1,h2,h3⟩:=(Kd.R_reads' h).2.2
 obtain⟨ad,e,hc⟩:=h3 (Z0)
 injection e with e
 subst e
 obtain⟨cs,q1,q2,q3⟩:=hc i x hx
 have q2':=k32_open q2
 subst q2'
 have r:∀ (j:Nat) (u:Value),([Value.int .i64 x.f0,.int .i64 x.f1]:List Value)[j]?=some u->w.cell? ⟨g,i * 2+j,none⟩=some u:=fun j u hu=>by
  have r0:=q3 j u hu
  rw[show (⟨g,0,none⟩:Addr).add (i * k32.sz+j)=⟨g,i * 2+j,none⟩ by
   rw[show k32.sz=2 from rfl]
   unfold Addr.add
   split <;> simp_all]at r0
  exact r0
 exact⟨g,rfl,r 0 _ rfl,r 1 _ rfl⟩
theorem awk_top:firstN (topE (addI [] [5,6,5])) 1=[⟨5,2⟩]:=by
 have h1:(addI [] [5,6,5]).map toE=[⟨5,2⟩,⟨6,1⟩]:=Z5
 have h2:topE (addI [] [5,6,5])=[⟨5,2⟩,⟨6,1⟩]:=by
  unfold topE
  rw[h1]
  refine List.Perm.eq_of_pairwise (le:=fun a b=>leE a b=true) (fun x y _ _ h1 h2=>?_) (sortedE _) ?_ (List.mergeSort_perm _ _)
  ·unfold leE at h1 h2
   simp only[Bool.not_eq_true']at h1 h2
   exact antiE x y h2 h1
  ·simp[leE,ltE]
 rw[h2]
 rfl
theorem row3 {W:World} (a b c:Int):Kd.R (Kd.int .i64) 3 (W.alloc (.cells #[.int .i64 a,.int .i64 b,.int .i64 c] 3)) W.heap.size (fun _=>True) (.slice (some ⟨W.heap.size,0,none⟩) 3 3) [a,b,c]:=Kd.R_of_own (own_lit W W.heap.size 3 .i64 [a,b,c] (Nat.le_refl _) (by simp)) (fun _ _=>trivial)
theorem awake_any (w:World):Calls Try.prog 8 #[] w fun e w'=>e=.returned (.bool true)/\Below w.heap.size w w':=by
 go_enter Try.func8,Try.ntmps8
 go_wp2_with (go_at_call 22;refine(new_any _).mono ?_;rintro e w1 ⟨d,bi,bp,rfl,ht,hb⟩;have HT1:=As.mk ht;have HB1:=As.mk hb;clear ht hb)
 have HBA:=As.mk (below_alloc (Below.refl w1.heap.size w1) (.cells #[.int .i64 5,.int .i64 6,.int .i64 5] 3))
 have HADD:=As.mk (add_any (HT1.out.below HBA.out) Fine.nil Fine.nil (Int.le_refl _) (Z0) (A:=some ⟨w1.heap.size,0,none⟩) (c:=3) (ids:=[5,6,5]) (fun W o=>(Kd.R_reads' (Kd.R_mono (Kd.R_move (Kd.R_bound (row3 (W:=w1) 5 6 5)) (fun j hj=>o.block j hj.2.2.1 (.inr hj.2.1))) (fun _ _=>trivial))).2.2) (by simp) (Nat.le_trans HB1.out.size HBA.out.size))
 go_wp2_with (first
  | (go_at_call 21;go_loud (refine HADD.out.mono ?_;rintro e w2 ⟨rfl,ht,ho⟩;have HT2:=As.mk ht;have HB2:=As.mk ((HB1.out.trans (HBA.out.mono HB1.out.size)).trans (ho.below (Nat.le_trans HB1.out.size HBA.out.size)));clear ht ho HADD))
  | (go_at_call 10;go_loud (refine(topE_any HT2.out (n:=3) (show Fine (addI [] [5,6,5]) 3 from fine_addI [5,6,5] Fine.nil) (Z0) 1).mono ?_;rintro e w3 ⟨v,rfl,ho,hb⟩;rw[awk_top]at ho;obtain⟨A3,c3,rfl⟩:=Kd.R_slice ho;obtain⟨g3,rfl,x0,x1⟩:=ent_cells ho (i:=0) rfl;have HT3:=As.mk (HT2.out.below hb);have HB3:=As.mk (HB2.out.trans (hb.mono HB2.out.size));clear ho hb;have heq:=ent_eql 5 2))
  | (go_at_call 18;go_loud (refine(behind_any HT3.out 5 6).mono ?_;rintro e w4 ⟨rfl,rfl⟩)))
 go_ret
 exact⟨rfl,HB3.out⟩
theorem tallyNone_any (id:Int) {A:Option Addr} {c:Nat} {l:List Int} {w:World} (hr:Kd.C (Kd.int .i64) w A l.length l) (hc:l.length≤c):Calls Try.prog 6 #[.int .i64 id,.slice A l.length c] w fun e w'=>e=.returned (.bool true)/\Below w.heap.size w w':=by
 by_cases h:30<l.length
 ·have hI:(30:Int)<(l.length:Int):=by omega
  clear hr
  go_enter Try.func6,Try.ntmps6
  go_wp2_with (go_at_call 8;refine(awake_any _).mono ?_;rintro e w1 ⟨rfl,hb⟩)
  go_ret
  exact⟨rfl,hb⟩
 ·have hI:¬ (30:Int)<(l.length:Int):=by omega
  have HR:=As.mk hr
  have HC:=As.mk hc
  clear hr hc
  have HFT:=As.mk (show l.filter (fun x=>!false)=l from by simp)
  go_enter Try.func6,Try.ntmps6
  go_wp2_with (first
   | (go_at_call 21;refine(add_nil A l.length c _).mono ?_;rintro e w1 ⟨rfl,rfl⟩)
   | (go_at_call 22;refine(new_any _).mono ?_;rintro e w1 ⟨d,bi,bp,rfl,_,hb⟩;have HB1:=As.mk hb;have HB2:=As.mk (below_alloc hb (.cells #[.pointer (some ⟨d,0,none⟩)] 25));clear hb)
   | (go_at_call 16;refine(merge_nil _ _).mono ?_;rintro e w2 ⟨rfl,rfl⟩)
   | (go_at_call 17;refine(count_nil id _).mono ?_;rintro e w3 ⟨rfl,rfl⟩)
   | (go_at_call 18;refine(behind_nil id id _).mono ?_;rintro e w3 ⟨rfl,rfl⟩)
   | (go_at_call 14;refine(total_nil _).mono ?_;rintro e w3 ⟨rfl,rfl⟩)
   | (go_at_call 15;refine(kinds_nil _).mono ?_;rintro e w3 ⟨rfl,rfl⟩)
   | (go_at_call 10;refine(nil_top 3 _).mono ?_;rintro e w3 ⟨rfl,rfl⟩)
   | (go_at_call 11;refine(nil_pairs 3 _).mono ?_;rintro e w3 ⟨rfl,rfl⟩)
   | (go_at_call 20;go_loud (refine(never_any (pt:=none) (p:=fun _=>false) (Kd.C_below HR.out HB2.out) (Z0) (fun W hW x=>(count_nil x W).mono fun e w' he=>⟨⟨0,he.1,by simp⟩,he.2⟩)).mono ?_;rintro e w4 ⟨v,rfl,ho,hb⟩;rw[HFT.out]at ho;have HB4:=As.mk (bt_ HB2.out hb);have HO4:=As.mk ho;clear ho hb;obtain⟨A4,c4,rfl⟩:=Kd.R_slice HO4.out))
   | (go_at_call 19;go_loud (refine(Hp.ints_any l l A4 A c4 c _ (Kd.R_reads' HO4.out).2.2 (Kd.R_reads' HO4.out).2.1 (Kd.C_below HR.out HB4.out) HC.out (Z0)).mono ?_;rw[decide_eq_true (show l=l from rfl)];rintro e w5 ⟨rfl,hd⟩;have HB5:=As.mk (bt_ HB4.out (dr_below hd));clear hd))
   | (go_at_call 8;refine(awake_any _).mono ?_;rintro e w6 ⟨rfl,hb⟩;have HB6:=As.mk (bt_ HB5.out hb);clear hb))
  go_ret
  exact⟨rfl,HB6.out⟩
end Go.Proofs.Ythcpdiknejblnaa.Ta
