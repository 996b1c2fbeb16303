import Derived.Test.YthcpdiknejblnaaQdTaN
set_option maxRecDepth 100000
set_option maxHeartbeats 4000000
set_option linter.unusedVariables false
set_option linter.unusedSimpArgs false
namespace Go.Proofs.Ythcpdiknejblnaa.Ta
open Go Go.MapKept Go.RowKit Go.ChangeMaps Mp YthcpdiknejblnaaW.PrintWords YthcpdiknejblnaaW.PrintLast YthcpdiknejblnaaW.PrintMore Rf Aid Hp
theorem fine_len {κ:Type} [DecidableEq κ] {I J:List (κ × Int)} {m n:Int} (hI:Fine I m) (hJ:Fine J n) (h:∀ k,getN I k=getN J k):I.length=J.length:=by
 have hp:=(List.perm_ext_iff_of_nodup hI.nd hJ.nd).2 (fun k=>by
  have h1:=hI.get_pos k
  have h2:=hJ.get_pos k
  rw[←h k]at h2
  exact h1.trans h2.symm)
 have:=hp.length_eq
 rwa [List.length_map,List.length_map]at this
theorem cntL_app (a b:List (List Int)) (x:Int):cntL (a++b) x=cntL a x+cntL b x:=by simp[cntL]
theorem behL_app (a b:List (List Int)) (x y:Int):behL (a++b) x y=behL a x y+behL b x y:=by simp[behL]
theorem totL_app (a b:List (List Int)):totL (a++b)=totL a+totL b:=by simp[totL]
structure Mg (L:List (List Int)) (k:Int) (I:List (Int × Int)) (P:List ((Int × Int) × Int)) (n:Int):Prop where
 ids:∀ x,getN I x=k * ((cntL L x:Nat):Int)
 prs:∀ x y,getN P (x,y)=k * ((behL L x y:Nat):Int)
 tot:n=k * ((totL L:Nat):Int)
 fin:Fin2 I P n
theorem mg_of (l:List (List Int)):Mg l 1 (ofI l) (ofP l) ((totL l:Nat):Int) :=
 ⟨fun x=>by rw[getN_ofI,Int.one_mul],fun x y=>by rw[getN_ofP,Int.one_mul],by rw[Int.one_mul],fine_ofI l,_,by have:=sid_tot l;omega,fine_ofP l⟩
theorem Mg.both {a b:List (List Int)} {I I2 I':List (Int × Int)} {P P2 P':List ((Int × Int) × Int)} {n n2 n':Int} (h1:Mg a 1 I P n) (h2:Mg b 1 I2 P2 n2) (h:Both I I2 I' P P2 P' n n2 n'):Mg (a++b) 1 I' P' n' :=
 ⟨fun x=>by rw[h.ids,h1.ids,h2.ids,cntL_app];omega,fun x y=>by rw[h.prs,h1.prs,h2.prs,behL_app];omega,by rw[h.tot,h1.tot,h2.tot,totL_app];omega,h.fi,h.fp⟩
theorem Mg.twice {l:List (List Int)} {I I':List (Int × Int)} {P P':List ((Int × Int) × Int)} {n n':Int} (h1:Mg l 1 I P n) (h:Both I I I' P P P' n n n'):Mg l 2 I' P' n' :=
 ⟨fun x=>by rw[h.ids,h1.ids];omega,fun x y=>by rw[h.prs,h1.prs];omega,by rw[h.tot,h1.tot];omega,h.fi,h.fp⟩
theorem underS:Try.prog.underlying 22=some (.slice 37):=by rw[under_intss,elem_ints]
def kRow:Kd (List Int):=Kd.slice 3 (Kd.int .i64)
theorem rows_now {w W:World} {A:Option Addr} {n:Nat} {l:List (List Int)} (h:Kd.C (Kd.fixed kRow w) W A n l) (hb:Below w.heap.size w W):Kd.C (Kd.slice 3 (Kd.int .i64)) W A n l :=
 ReadsRow.imp_ h (Below.refl _ _) (fun x cs hk=>kRow.K_below hb hk)
variable {lo hi d bi bp lo2 hi2 d2 bi2 bp2:Nat} {w:World} {I I2:List (Int × Int)} {P P2:List ((Int × Int) × Int)} {n n2:Int}
theorem merge_two {a b:List (List Int)} {g c:Nat} (h:TalAt lo hi w d bi bp I P n) (h1:Mg a 1 I P n) (hu:TalAt lo2 hi2 w d2 bi2 bp2 I2 P2 n2) (h2:Mg b 1 I2 P2 n2) (hh:hi≤lo2) (hg:w.heap[g]?=some (.cells #[.pointer (some ⟨d2,0,none⟩),.pointer none] 25 (0,0))) (hhg:hi≤g) (hn:n≤1000) (hn2:n2≤1000) :
  Calls Try.prog 16 #[.pointer (some ⟨d,0,none⟩),.slice (some ⟨g,0,none⟩) 2 c] w fun e w'=>e=.returned (.tuple #[])/\∃ I' P' n',Mg (a++b) 1 I' P' n'/\TalAt lo hi w' d bi bp I' P' n'/\Out lo hi w w':=by
 have hm:=merge_gen (lo:=lo) (hi:=hi) (fun i J Q m=>(i=0/\J=I/\Q=P/\m=n)\/(1≤i/\Mg (a++b) 1 J Q m)) [some d2,none] (g:=g) (c:=c)
  (fun W ho i x hx=>by
   have hb:=(ho.block g (lt_of hg) (.inr hhg)).trans hg
   match i,hx with
   | 0,hx=>obtain rfl:some d2=x:=by simpa using hx
           exact cell_of (i:=0) hb rfl
   | 1,hx=>obtain rfl:none=x:=by simpa using hx
           exact cell_of (i:=1) hb rfl
   | i+2,hx=>simp at hx) (by simp) h (.inl ⟨rfl,rfl,rfl,rfl⟩)
  (fun i J Q m hs=>by
   rcases hs with⟨_,rfl,rfl,rfl⟩|⟨_,hs⟩
   ·exact⟨h1.fin,Z0⟩
   ·refine⟨hs.fin,?_⟩
    have e1:=hs.tot
    have e2:=h1.tot
    have e3:=h2.tot
    rw[totL_app]at e1
    omega)
  (fun i J Q m hx hs=>by
   rcases hs with⟨rfl,_⟩|⟨hi1,hs⟩
   ·simp at hx
   ·exact .inr ⟨Z0,hs⟩)
  (fun i eb J Q m W hx hs ht ho=>by
   have hi0:i=0/\eb=d2:=by
    match i,hx with
    | 0,hx=>exact⟨rfl,by simpa using hx.symm⟩
    | 1,hx=>simp at hx
    | i+2,hx=>simp at hx
   obtain⟨rfl,rfl⟩:=hi0
   rcases hs with⟨_,rfl,rfl,rfl⟩|⟨hi1,_⟩
   ·have hu':=hu.apart ho (.inr hh)
    refine⟨bi2,bp2,I2,P2,n2,hu'.blk,hu'.ids,hu'.prs,?_,h2.fin,Z0,fun I'' P'' n'' hb=>.inr ⟨Z0,h1.both h2 hb⟩⟩
    have:=hu.rp
    have:=h.ri
    omega
   ·omega)
 refine(show Calls Try.prog 16 #[.pointer (some ⟨d,0,none⟩),.slice (some ⟨g,0,none⟩) 2 c] w _ from hm).mono ?_
 rintro e w' ⟨rfl,I',P',n',hs,ht,ho⟩
 refine⟨rfl,I',P',n',?_,ht,ho⟩
 rcases hs with⟨h0,_⟩|⟨_,hs⟩
 ·cases h0
 ·exact hs
theorem merge_self {l:List (List Int)} {g c:Nat} (h:TalAt lo hi w d bi bp I P n) (h1:Mg l 1 I P n) (hg:w.heap[g]?=some (.cells #[.pointer (some ⟨d,0,none⟩)] 25 (0,0))) (hhg:hi≤g) (hn:n≤1000) :
  Calls Try.prog 16 #[.pointer (some ⟨d,0,none⟩),.slice (some ⟨g,0,none⟩) 1 c] w fun e w'=>e=.returned (.tuple #[])/\∃ I' P' n',Mg l 2 I' P' n'/\TalAt lo hi w' d bi bp I' P' n'/\Out lo hi w w':=by
 have hm:=merge_gen (lo:=lo) (hi:=hi) (fun i J Q m=>(i=0/\J=I/\Q=P/\m=n)\/(1≤i/\Mg l 2 J Q m)) [some d] (g:=g) (c:=c)
  (fun W ho i x hx=>by
   have hb:=(ho.block g (lt_of hg) (.inr hhg)).trans hg
   match i,hx with
   | 0,hx=>obtain rfl:some d=x:=by simpa using hx
           exact cell_of (i:=0) hb rfl
   | i+1,hx=>simp at hx) (by simp) h (.inl ⟨rfl,rfl,rfl,rfl⟩)
  (fun i J Q m hs=>by
   rcases hs with⟨_,rfl,rfl,rfl⟩|⟨_,hs⟩
   ·exact⟨h1.fin,Z0⟩
   ·refine⟨hs.fin,?_⟩
    have e1:=hs.tot
    have e2:=h1.tot
    omega)
  (fun i J Q m hx hs=>by
   match i,hx with
   | 0,hx=>simp at hx
   | i+1,hx=>simp at hx)
  (fun i eb J Q m W hx hs ht ho=>by
   have hi0:i=0/\eb=d:=by
    match i,hx with
    | 0,hx=>exact⟨rfl,by simpa using hx.symm⟩
    | i+1,hx=>simp at hx
   obtain⟨rfl,rfl⟩:=hi0
   rcases hs with⟨_,rfl,rfl,rfl⟩|⟨hi1,_⟩
   ·exact⟨bi,bp,_,_,_,ht.blk,ht.ids,ht.prs,Ne.symm ht.ne,h1.fin,Z0,fun I'' P'' n'' hb=>.inr ⟨Z0,h1.twice hb⟩⟩
   ·omega)
 refine(show Calls Try.prog 16 #[.pointer (some ⟨d,0,none⟩),.slice (some ⟨g,0,none⟩) 1 c] w _ from hm).mono ?_
 rintro e w' ⟨rfl,I',P',n',hs,ht,ho⟩
 refine⟨rfl,I',P',n',?_,ht,ho⟩
 rcases hs with⟨h0,_⟩|⟨_,hs⟩
 ·cases h0
 ·exact hs
theorem tallyMerges_any (x y:Int) {A B:Option Addr} {c d:Nat} {a b:List (List Int)} {w:World} (hr:Kd.C (Kd.slice 3 (Kd.int .i64)) w A a.length a) (hc:a.length≤c) (hl9:a.length≤9223372036854775807) (hr2:Kd.C (Kd.slice 3 (Kd.int .i64)) w B b.length b) (hd:b.length≤d) (hl92:b.length≤9223372036854775807) :
  Calls Try.prog 4 #[.slice A a.length c,.slice B b.length d,.int .i64 x,.int .i64 y] w fun e w'=>e=.returned (.bool true)/\Below w.heap.size w w':=by
 have HGA:=As.mk (great_law hr hc hl9)
 have HGB:=As.mk (fun(W:World) (hb:Below w.heap.size w W)=>great_law (c:=d) (Kd.C_below hr2 hb) hd hl92)
 have hcase:(greatB a=true\/(greatB a=false/\greatB b=true))\/(greatB a=false/\greatB b=false):=by
  cases greatB a <;> cases greatB b <;> simp
 rcases hcase with hgo|⟨hga,hgb⟩
 ·clear hr hr2
  generalize greatB a=ga at *
  generalize greatB b=gb at *
  rcases hgo with rfl|⟨rfl,rfl⟩
  all_goals
   go_enter Try.func4,Try.ntmps4
   go_wp2_with (first
    | (go_at_call 7;refine HGA.out.mono ?_;rintro e w1 ⟨rfl,hb⟩;have HB1:=As.mk hb;clear hb HGA)
    | (go_at_call 7;refine(HGB.out _ HB1.out).mono ?_;rintro e w1b ⟨rfl,hb⟩;have HB1b:=As.mk (bt_ HB1.out hb);clear hb HGB HB1;have HB1:=HB1b;clear HB1b)
    | (go_at_call 8;refine(awake_any _).mono ?_;rintro e w2 ⟨rfl,hb⟩;have HB2:=As.mk (bt_ HB1.out hb);clear hb))
   go_ret
   exact⟨rfl,HB2.out⟩
 ·rw[hga]at HGA
  rw[hgb]at HGB
  obtain⟨hla,hma⟩:=great_no hga
  obtain⟨hlb,hmb⟩:=great_no hgb
  have hta:=tot_le hma
  have htb:=tot_le hmb
  have HLL:=As.mk (And.intro hla (And.intro hlb (And.intro (show totL a≤360 from Z0) (show totL b≤360 from Z0))))
  have HOA:=As.mk (fun(W:World) (hb:Below w.heap.size w W)=>of_any (c:=c) (Kd.C_below hr hb) (Z0) hma)
  have HOB:=As.mk (fun(W:World) (hb:Below w.heap.size w W)=>of_any (c:=d) (Kd.C_below hr2 hb) (Z0) hmb)
  have hmm:∀ r∈a++b,r.length≤30:=fun r hr=>(List.mem_append.1 hr).elim (hma r) (hmb r)
  have HOC:=As.mk (fun(W:World) (A':Option Addr) (c':Nat) (hC:Kd.C (Kd.slice 3 (Kd.int .i64)) W A' (a++b).length (a++b))=>of_any (c:=c') hC (by rw[List.length_append];omega) hmm)
  have HTA:=As.mk (totL_app a b)
  obtain⟨L,hL⟩:∃ L,a++b=L:=⟨_,rfl⟩
  rw[hL]at HOC HTA
  have HLQ:=As.mk hL
  have HBD:=As.mk (show cntL L x≤720/\behL L x y≤720/\totL L≤720 by
   have h1:=HTA.out
   have h2:=cnt_tot L x
   have h3:=(fine_ofP L).get (x,y)
   rw[getN_ofP]at h3
   have h4:=sid_tot L
   have h5:=HLL.out
   omega)
  have HR:=As.mk hr
  have HR2:=As.mk hr2
  clear hr hr2 hla hma hlb hmb hta htb hmm hga hgb hl9 hl92 hL
  go_enter Try.func4,Try.ntmps4
  go_wp2_with (first
   | (go_at_call 7;refine HGA.out.mono ?_;rintro e w1 ⟨rfl,hb⟩;have HB1:=As.mk hb;clear hb HGA)
   | (go_at_call 7;refine(HGB.out _ HB1.out).mono ?_;rintro e w1b ⟨rfl,hb⟩;have HB1b:=As.mk (bt_ HB1.out hb);clear hb HGB HB1)
   | (go_at_call 8;refine(awake_any _).mono ?_;rintro e w2 ⟨rfl,hb⟩;have HB2:=As.mk (bt_ HB1b.out hb);clear hb HB1b)
   | (go_at_call 9;(refine(HOA.out _ HB2.out).mono ?_;rintro e w3 ⟨td,tbi,tbp,hi3,rfl,hle,ht,hb⟩;have HL3:=As.mk hle;have HT3:=As.mk ht;have HB3:=As.mk (bt_ HB2.out hb);have HS3:=As.mk hb.size;have HS2:=As.mk HB2.out.size;clear ht hb hle HOA HB2))
   | (go_at_call 9;(refine(HOB.out _ HB3.out).mono ?_;rintro e w4 ⟨ud,ubi,ubp,hi4,rfl,hle,ht,hb⟩;have HL4:=As.mk hle;have HU4:=As.mk ht;have HB4:=As.mk (bt_ HB3.out hb);have HT4:=As.mk (HT3.out.below hb);have HS4:=As.mk hb.size;clear ht hb hle HB3 HT3))
   | ((with_reducible refine gate_builtin (b:=.append) (xs:=#[.tmp 28,.tmp 29]) rfl ?_);at_builtin;go_loud (refine Kd.R_append_rows (Kd.fixed kRow w) (Rr:=kRow.K w) (w0:=w4) w4.heap.size rfl (.tmp 28) (.tmp 29) 22 37 (.slice none 0 0) 24 rfl underS infoS rfl (show 0<1 from Z13) (Z0) (.slice none 0 0) [] a A a.length c (fun _=>True) (fun _=>False) (by rfl) (Z21) (Kd.R_nil _ _ _ _ _) (HR.out.imp_ HB4.out (fun _ _ h=>h)) (fun _ _ h=>h) (fun _ hk=>hk.elim) (fun _ _=>trivial) (Below.refl _ _) (Nat.le_refl _) (by have:=HLL.out;simp only[List.length_nil];omega) ?_;intro u5 w5 ho hb hg hat;have HO5:=As.mk ho;have HB5:=As.mk hb;clear ho hb hg hat))
   | ((with_reducible refine gate_builtin (b:=.append) (xs:=#[.tmp 31,.tmp 32]) rfl ?_);at_builtin;go_loud (refine Kd.R_append_rows (Kd.fixed kRow w) (Rr:=kRow.K w) (w0:=w4) w4.heap.size rfl (.tmp 31) (.tmp 32) 22 37 (.slice none 0 0) 24 rfl underS infoS rfl (show 0<1 from Z13) (Z0) _ ([]++a) b B b.length d (fun _=>True) (fun _=>False) (by rfl) (Z21) HO5.out (HR2.out.imp_ (bt_ HB4.out HB5.out) (fun _ _ h=>h)) (fun _ _ h=>h) (fun _ hk=>hk.elim) (fun _ _=>trivial) HB5.out HB5.out.size (by have:=HLL.out;rw[List.nil_append];omega) ?_;intro u6 w6 ho hb hg hat;have HO6:=As.mk ho;rw[List.nil_append,HLQ.out]at HO6;have HB6:=As.mk hb;clear ho hb hg hat HO5 HB5;obtain⟨A6,c6,rfl⟩:=Kd.R_slice HO6.out;have HC6:=As.mk (rows_now (Kd.R_reads' HO6.out).2.2 (bt_ HB4.out HB6.out));clear HO6))
   | (go_at_call 9;(refine(HOC.out _ A6 c6 HC6.out).mono ?_;rintro e w7 ⟨vd,vbi,vbp,hi7,rfl,hle,ht,hb⟩;have HL7:=As.mk hle;have HV7:=As.mk ht;have HB7:=As.mk (HB6.out.trans (hb.mono HB6.out.size));have HS6:=As.mk HB6.out.size;have HS46:=As.mk (show w3.heap.size≤w6.heap.size by have h1:=HS4.out;have h2:=HB6.out.size;omega);clear ht hb hle HOC HC6 HB6))
   | (go_at_call 16;have HBA:=As.mk (below_alloc (Below.refl w7.heap.size w7) (.cells #[.pointer (some ⟨ud,0,none⟩),.pointer none] 25));(refine(merge_two (a:=a) (b:=b) ((HT4.out.below HB7.out).below HBA.out) (mg_of a) ((HU4.out.below HB7.out).below HBA.out) (mg_of b) HL3.out (heap_alloc w7 _).1 (by have h1:=HL3.out;have h2:=HS4.out;have h3:=HB7.out.size;omega) (by have:=HLL.out;omega) (by have:=HLL.out;omega)).mono ?_;rintro e w8 ⟨rfl,I1,P1,n1,hst,ht,ho⟩;rw[HLQ.out]at hst;have HT8:=As.mk ht;have HM8:=As.mk hst;have HU8:=As.mk (((HU4.out.below HB7.out).below HBA.out).apart ho (.inr HL3.out));have HV8:=As.mk ((HV7.out.below HBA.out).apart ho (.inr (by have h1:=HL3.out;have h2:=HS4.out;have h3:=HS6.out;omega)));have HB8:=As.mk (((HB4.out.trans (HB7.out.mono HB4.out.size)).trans (HBA.out.mono (Nat.le_trans HB4.out.size HB7.out.size))).trans ((ho.below (by have h1:=HS3.out;have h2:=HS4.out;have h3:=HB7.out.size;have h4:=HBA.out.size;omega)).mono HS2.out));have HS8:=As.mk (show w4.heap.size≤w8.heap.size by have h3:=HB7.out.size;have h4:=HBA.out.size;have h5:=ho.size;omega);have HC8:=As.mk (count_any HT8.out x);rw[HM8.out.ids,Int.one_mul]at HC8;have HCV8:=As.mk (count_any HV8.out x);rw[getN_ofI]at HCV8;have HH8:=As.mk (behind_any HT8.out x y);rw[HM8.out.prs,Int.one_mul]at HH8;have HHV8:=As.mk (behind_any HV8.out x y);rw[getN_ofP]at HHV8;have HN8:=As.mk (total_any HT8.out);rw[HM8.out.tot,Int.one_mul]at HN8;have HNV8:=As.mk (total_any HV8.out);have HNU8:=As.mk (total_any HU8.out);have HK8:=As.mk (kinds_any HT8.out);rw[fine_len HM8.out.fin.fi (fine_ofI L) (fun k=>by rw[HM8.out.ids,Int.one_mul,getN_ofI])]at HK8;have HKV8:=As.mk (kinds_any HV8.out);have HOB8:=As.mk (HOB.out _ HB8.out);clear hst ht ho HT4 HU4 HV7 HB7 HBA HOB HB4 HS6))
   | (go_at_call 17;(refine HC8.out.mono ?_;rintro e w9 ⟨rfl,rfl⟩;clear HC8))
   | (go_at_call 17;(refine HCV8.out.mono ?_;rintro e w9 ⟨rfl,rfl⟩;clear HCV8))
   | (go_at_call 18;(refine HH8.out.mono ?_;rintro e w9 ⟨rfl,rfl⟩;clear HH8))
   | (go_at_call 18;(refine HHV8.out.mono ?_;rintro e w9 ⟨rfl,rfl⟩;clear HHV8))
   | (go_at_call 14;(refine HN8.out.mono ?_;rintro e w9 ⟨rfl,rfl⟩;clear HN8))
   | (go_at_call 14;(refine HNV8.out.mono ?_;rintro e w9 ⟨rfl,rfl⟩;clear HNV8))
   | (go_at_call 14;(refine HNU8.out.mono ?_;rintro e w9 ⟨rfl,rfl⟩;clear HNU8))
   | (go_at_call 15;(refine HK8.out.mono ?_;rintro e w9 ⟨rfl,rfl⟩;clear HK8))
   | (go_at_call 15;(refine HKV8.out.mono ?_;rintro e w9 ⟨rfl,rfl⟩;clear HKV8))
   | (go_at_call 9;(refine HOB8.out.mono ?_;rintro e w9 ⟨bd,bbi,bbp,hi9,rfl,hle,ht,hb⟩;have HNB9:=As.mk (total_any ht);have HB89:=As.mk hb;clear ht hb hle HOB8))
   | (go_at_call 14;(refine HNB9.out.mono ?_;rintro e w10 ⟨rfl,rfl⟩;clear HNB9))
   | (go_at_call 16;have HBA:=As.mk (below_alloc (Below.refl w9.heap.size w9) (.cells #[.pointer (some ⟨td,0,none⟩)] 25));go_loud (refine(merge_self (l:=L) ((HT8.out.below HB89.out).below HBA.out) HM8.out (heap_alloc w9 _).1 (by have h1:=HL3.out;have h2:=HS4.out;have h3:=HS8.out;have h4:=HB89.out.size;omega) (by have h1:=HLL.out;have h2:=HM8.out.tot;have h3:=HTA.out;omega)).mono ?_;rintro e w10 ⟨rfl,I2,P2,n2,hst,ht,ho⟩;have HM10:=As.mk hst;have HT10:=As.mk ht;have HV10:=As.mk (((HV8.out.below HB89.out).below HBA.out).apart ho (.inr (by have h1:=HL3.out;have h2:=HS46.out;omega)));have HB10:=As.mk (((HB8.out.trans (HB89.out.mono HB8.out.size)).trans (HBA.out.mono (Nat.le_trans HB8.out.size HB89.out.size))).trans ((ho.below (by have h1:=HS3.out;have h2:=HS4.out;have h3:=HS8.out;have h4:=HBA.out.size;have h5:=HB89.out.size;omega)).mono HS2.out));have HC10:=As.mk (count_any HT10.out x);rw[HM10.out.ids]at HC10;have HCV10:=As.mk (count_any HV10.out x);rw[getN_ofI]at HCV10;have HH10:=As.mk (behind_any HT10.out x y);rw[HM10.out.prs]at HH10;have HHV10:=As.mk (behind_any HV10.out x y);rw[getN_ofP]at HHV10;have HN10:=As.mk (total_any HT10.out);rw[HM10.out.tot]at HN10;have HNV10:=As.mk (total_any HV10.out);clear hst ht ho HBA HB89 HV8 HT8 HM8;(have hw1:wrap64 (2 * ((cntL L x:Nat):Int))=2 * ((cntL L x:Nat):Int):=w64 (Z0) (Z22));(have hw2:wrap64 (2 * ((behL L x y:Nat):Int))=2 * ((behL L x y:Nat):Int):=w64 (Z0) (Z22));(have hw3:wrap64 (2 * ((totL L:Nat):Int))=2 * ((totL L:Nat):Int):=w64 (Z0) (Z22))))
   | (go_at_call 17;(refine HC10.out.mono ?_;rintro e w11 ⟨rfl,rfl⟩;clear HC10))
   | (go_at_call 17;(refine HCV10.out.mono ?_;rintro e w11 ⟨rfl,rfl⟩;clear HCV10))
   | (go_at_call 18;(refine HH10.out.mono ?_;rintro e w11 ⟨rfl,rfl⟩;clear HH10))
   | (go_at_call 18;(refine HHV10.out.mono ?_;rintro e w11 ⟨rfl,rfl⟩;clear HHV10))
   | (go_at_call 14;(refine HN10.out.mono ?_;rintro e w11 ⟨rfl,rfl⟩;clear HN10))
   | (go_at_call 14;(refine HNV10.out.mono ?_;rintro e w11 ⟨rfl,rfl⟩;clear HNV10)))
  go_ret
  exact⟨rfl,HB10.out⟩
end Go.Proofs.Ythcpdiknejblnaa.Ta
