import Derived.Test.YtkffhgiiejbnaaaGreatQRefS
import Derived.Test.YtkffhgiiejbnaaaGreatQVocO
set_option maxRecDepth 100000
set_option maxHeartbeats 2000000
set_option linter.unusedVariables false
set_option linter.unusedSimpArgs false
namespace Go.Proofs.YtkffhgiiejbnaaaGreat.Rt
open Go.RowKit YtkffhgiiejbnaaaGreatW.PrintWords Rf Aid Mp Hp Tk Vc Bn
theorem growL_good:∀ (l:List Int) (E:List Ent),Tk.Good E->Tk.Good (growL l E)
 | x::y::l,E,h=>growL_good l _ (more_good h _ _)
 | [],E,h=>h
 | [x],E,h=>h
theorem addC_take {E:List Ent} (h:Tk.Good E) {i:Nat} (h256:256≤i) (hi:i<E.length):addC (E.take i) (E[i]).f1 (E[i]).f2=0/\newE (E.take i) (E[i]).f1 (E[i]).f2=E[i]:=by
 obtain⟨p1,p2,p3,p4,p5⟩:=h.par i hi h256
 have hl:(E.take i).length=i:=Z8
 have hb:∀ c:Int,0≤c->c<(i:Int)->byt (E.take i) c=byt E c:=fun c h0 h1=>by
  obtain⟨n,rfl⟩:=Int.eq_ofNat_of_zero_le h0
  unfold byt
  rw[Int.toNat_natCast,List.getElem?_take,if_pos (Z1)]
 have hs:sumB (E.take i) (E[i]).f1 (E[i]).f2=(E[i]).f0:=by unfold sumB;rw[hb _ p1 p2,hb _ p3 p4];exact p5.symm
 have hn:idxB (E.take i) (E[i]).f0=none:=by
  unfold idxB
  rw[List.findIdx?_eq_none_iff]
  intro x hx
  rw[decide_eq_false_iff_not]
  intro he
  obtain⟨j,hj,rfl⟩:=List.getElem_of_mem hx
  rw[List.getElem_take]at he
  have hj:j<i:=by rw[hl]at hj;exact hj
  have hnd:=h.nodup
  have h1:(E.map (·.f0))[j]'(Z6)=(E.map (·.f0))[i]'(Z6):=Z74
  exact absurd h1 (List.pairwise_iff_getElem.1 hnd j i (Z6) (Z6) hj)
 have ha:hasE (E.take i) (E[i]).f1=true:=by unfold hasE;rw[hl];exact decide_eq_true ⟨p1,p2⟩
 have hb':hasE (E.take i) (E[i]).f2=true:=by unfold hasE;rw[hl];exact decide_eq_true ⟨p3,p4⟩
 refine⟨?_,?_⟩
 ·unfold addC
  rw[if_pos ⟨ha,hb'⟩,hs,hn,hl]
  have h1:=(h.small _ (List.getElem_mem hi)).2
  have h2:=h.many.2
  rw[if_neg (Z1),if_neg (Z1)]
  rfl
 ·unfold newE;rw[hs]
theorem good_run {E:List Ent} (h:Tk.Good E):∀ (d i:Nat),E.length-i=d->256≤i->i≤E.length->newT (E.take i) (mp ((mL E).drop (i-256))) (i-256)=(E,E.length-256,0)
 | 0,i,h0,h1,h2=>by
  rw[List.drop_eq_nil_of_le (Z78),List.take_of_length_le (Z1)]
  have e:i-256=E.length-256:=Z1
  rw[e];rfl
 | d+1,i,h0,h1,h2=>by
  have hi:i<E.length:=Z1
  have hm:i-256<(mL E).length:=Z78
  obtain⟨a1,a2⟩:=addC_take h h1 hi
  have he:(mL E)[i-256]=⟨(E[i]).f1,(E[i]).f2⟩:=by
   have e:256+(i-256)=i:=Z1
   simp only[mL,List.getElem_map,List.getElem_drop,e]
  rw[List.drop_eq_getElem_cons hm,he]
  show (if addC (E.take i) (E[i]).f1 (E[i]).f2=0 then newT (E.take i++[newE (E.take i) (E[i]).f1 (E[i]).f2]) (mp ((mL E).drop (i-256+1))) (i-256+1) else _)=_
  rw[if_pos a1,a2,←List.take_succ_eq_append_getElem hi,show i-256+1=(i+1)-256 from Z1]
  exact good_run h d (i+1) (Z1) (Z1) (Z1)
theorem good_tab {E:List Ent} (h:Tk.Good E):newT (byteL 256) (mp (mL E)) 0=(E,E.length-256,0):=by
 have:=good_run h (E.length-256) 256 rfl (Nat.le_refl _) h.many.1
 rw[h.first]at this
 simpa using this
theorem newF_good:∀ (l S:List Mk.Sp) (n:Nat),(Mk.newF S l n).2=0->∀ x∈l,Mk.goodB x=true
 | [],S,n,_,x,hx=>by cases hx
 | y::l,S,n,h,x,hx=>by
  unfold Mk.newF at h
  by_cases hc:Mk.addE S y=0
  ·rw[if_pos hc]at h
   rcases List.mem_cons.1 hx with rfl|hx
   ·unfold Mk.addE at hc
    cases hg:Mk.goodB x with
    | true=>rfl
    | false=>rw[hg]at hc;cases hc
   ·exact newF_good l _ _ h x hx
  ·rw[if_neg hc]at h
   exact absurd h hc
theorem someX_ok:∀ (l:List S93) (i:Nat) (acc:List S93),(Mk.newP acc).2=0->(∀ x∈acc,1000≤x.f0)->(Mk.newP (someX l i acc)).2=0/\∀ x∈someX l i acc,1000≤x.f0
 | [],i,acc,h,hx=>⟨h,hx⟩
 | y::l,i,acc,h,hx=>by
  rw[someX_cons]
  by_cases hc:(Mk.newP (acc++[⟨1000+(i:Int),y.f1⟩])).2=0
  ·rw[if_pos hc]
   refine someX_ok l (i+1) _ hc (fun x hm=>?_)
   rcases List.mem_append.1 hm with hm|hm
   ·exact hx x hm
   ·rw[List.mem_singleton.1 hm];show 1000≤1000+(i:Int);omega
  ·rw[if_neg hc]
   exact someX_ok l (i+1) acc h hx
theorem some_good (L:List Int):Tk.Good (growL (L.take 60) (byteL 256)):=growL_good _ _ Tk.Good.begin_
theorem some_tab (L:List Int) (C:List S165) (J:List S108) (X:List S93):tabOf (someS L C J X)=(growL (L.take 60) (byteL 256),(growL (L.take 60) (byteL 256)).length-256,0):=good_tab (some_good L)
theorem some_ok (L:List Int) (C:List S165) (J:List S108) (X:List S93):VOk (someS L C J X):=by
 have hG:=some_good L
 have hT:=some_tab L C J X
 obtain⟨hx0,hx1⟩:=someX_ok (X.take 6) 0 [] rfl (fun _ h=>nomatch h)
 have hgx:∀ x∈someX (X.take 6) 0 [],Mk.goodB x=true:=newF_good _ _ _ hx0
 have hml:(mL (growL (L.take 60) (byteL 256))).length=(growL (L.take 60) (byteL 256)).length-256:=Z105
 refine⟨⟨?_,?_,?_,?_,?_,?_,?_,?_⟩,by rw[hT],hx0,fun x hx=>?_⟩
 ·show (mL (growL (L.take 60) (byteL 256))).length≤744
  rw[hml];have:=hG.many.2;omega
 ·show (someX (X.take 6) 0 []).length≤32
  have h1:=someX_take X (X.take 6) 0 []
  rw[List.length_take]at h1
  simp only[List.length_nil]at h1
  omega
 ·have:=List.length_filter_le okCb (C.take 8)
  rw[List.length_take]at this
  show ((C.take 8).filter okCb).length≤64
  omega
 ·have:=List.length_filter_le okJb (J.take 8)
  rw[List.length_take]at this
  show ((J.take 8).filter okJb).length≤64
  omega
 ·intro x hx
  have hx:x∈mL (growL (L.take 60) (byteL 256)):=hx
  unfold mL at hx
  obtain⟨e,he,rfl⟩:=List.mem_map.1 hx
  obtain⟨j,hj,rfl⟩:=List.getElem_of_mem he
  rw[List.getElem_drop]
  rw[List.length_drop]at hj
  obtain⟨p1,p2,p3,p4,p5⟩:=hG.par (256+j) (Z1) (Z1)
  have:=hG.many.2
  refine⟨⟨p1,?_⟩,p3,?_⟩ <;> (simp only;omega)
 ·intro x hx
  have h:=Mk.goodB_spec (hgx x hx)
  exact⟨⟨h.1,h.2.1⟩,h.2.2⟩
 ·intro x hx
  have h:=(List.mem_filter.1 (show x∈(C.take 8).filter okCb from hx)).2
  unfold okCb at h
  have h':=of_decide_eq_true h
  exact h'
 ·intro x hx
  have h:=(List.mem_filter.1 (show x∈(J.take 8).filter okJb from hx)).2
  unfold okJb at h
  have h':=of_decide_eq_true h
  exact h'
 ·rw[hT]
  have h1:=hx1 x hx
  have h2:=hG.many.2
  show ((growL (L.take 60) (byteL 256)).length:Int)≤x.f0
  omega
end Go.Proofs.YtkffhgiiejbnaaaGreat.Rt
namespace Go.Proofs.YtkffhgiiejbnaaaGreat.Rt
open Go.RowKit YtkffhgiiejbnaaaGreatW.PrintWords YtkffhgiiejbnaaaGreatW.PrintLast YtkffhgiiejbnaaaGreatW.PrintMore Rf Aid Mp Hp Tk Vc Bn
structure RefAt (w:World) (v:Nat) (A0 B0 A3 A4 A5:Option Addr) (c0 d0 c3 c4 c5:Nat) (s:Vc.Sp):Prop where
 T:∃ base,v<base/\ROwn w base A0 B0 c0 d0 (tabOf s).1
 X:Kd.R k93 93 w 0 (fun k=>k≠v) (.slice A3 s.X.length c3) s.X
 C:Kd.R k165 165 w 0 (fun k=>k≠v) (.slice A4 s.C.length c4) s.C
 J:Kd.R k108 108 w 0 (fun k=>k≠v) (.slice A5 s.J.length c5) s.J
theorem RefAt.below {w w':World} {v:Nat} {A0 B0 A3 A4 A5:Option Addr} {c0 d0 c3 c4 c5:Nat} {s:Vc.Sp} (h:RefAt w v A0 B0 A3 A4 A5 c0 d0 c3 c4 c5 s) (hb:Below w.heap.size w w'):RefAt w' v A0 B0 A3 A4 A5 c0 d0 c3 c4 c5 s:=by
 obtain⟨⟨base,h1,h2⟩,h3,h4,h5⟩:=h
 exact⟨⟨base,h1,h2.below hb⟩,Kd.R_below h3 hb,Kd.R_below h4 hb,Kd.R_below h5 hb⟩
theorem RefAt.set {w:World} {v:Nat} {A0 B0 A3 A4 A5:Option Addr} {c0 d0 c3 c4 c5:Nat} {s:Vc.Sp} (h:RefAt w v A0 B0 A3 A4 A5 c0 d0 c3 c4 c5 s) (u:Value):RefAt (w.setCell ⟨v,13,none⟩ u) v A0 B0 A3 A4 A5 c0 d0 c3 c4 c5 s:=by
 obtain⟨⟨base,h1,h2⟩,h3,h4,h5⟩:=h
 have hb:=Kd.R_bound h2.b
 have hm:=Kd.R_bound h2.m
 refine⟨⟨base,h1,⟨Kd.R_mono (Kd.R_far (p:=⟨v,13,none⟩) hb (fun k hk=>?_) u) (fun _ _=>trivial),Kd.R_mono (Kd.R_far (p:=⟨v,13,none⟩) hm (fun k hk=>?_) u) (fun _ _=>trivial)⟩⟩,Kd.R_far (p:=⟨v,13,none⟩) h3 (fun k hk=>hk) u,Kd.R_far (p:=⟨v,13,none⟩) h4 (fun k hk=>hk) u,Kd.R_far (p:=⟨v,13,none⟩) h5 (fun k hk=>hk) u⟩
 ·show k≠v;have:=hk.2.1;omega
 ·show k≠v;have:=hk.2.1;omega
theorem RefAt.used {w w':World} {v:Nat} {A0 B0 A3 A4 A5:Option Addr} {c0 d0 c3 c4 c5:Nat} {s:Vc.Sp} (h:RefAt w v A0 B0 A3 A4 A5 c0 d0 c3 c4 c5 s) (hu:Used w v w'):RefAt w' v A0 B0 A3 A4 A5 c0 d0 c3 c4 c5 s:=by
 obtain⟨m,hm⟩:=hu
 exact(h.set (.int .i64 m)).below (hm.mono (Z12))
theorem RefAt.tab {w:World} {v:Nat} {A0 B0 A3 A4 A5:Option Addr} {c0 d0 c3 c4 c5:Nat} {s:Vc.Sp} (h:RefAt w v A0 B0 A3 A4 A5 c0 d0 c3 c4 c5 s):RAt w A0 B0 c0 d0 (tabOf s).1:=by
 obtain⟨base,_,h2⟩:=h.T
 exact h2.at_
def caseV (A0 A1 A2 A3:Option Addr) (c0 c1 c2 c3:Nat) (L:List Int) (C:List S165) (J:List S108) (X:List S93):Value:=.agg #[.slice A0 L.length c0,.slice A1 C.length c1,.slice A2 J.length c2,.slice A3 X.length c3]
structure CaseAt (w:World) (A0 A1 A2 A3:Option Addr) (c0 c1 c2 c3:Nat) (L:List Int) (C:List S165) (J:List S108) (X:List S93):Prop where
 hL:Kd.C (Kd.int .u16) w A0 L.length L
 hu:∀ x∈L,0≤x/\x≤65535
 hC:Kd.C k165 w A1 C.length C
 hJ:Kd.C k108 w A2 J.length J
 hX:Kd.C k93 w A3 X.length X
 h0:L.length≤c0
 h1:C.length≤c1
 h2:J.length≤c2
 h3:X.length≤c3
theorem CaseAt.below {w w':World} {A0 A1 A2 A3:Option Addr} {c0 c1 c2 c3:Nat} {L:List Int} {C:List S165} {J:List S108} {X:List S93} (h:CaseAt w A0 A1 A2 A3 c0 c1 c2 c3 L C J X) (hb:Below w.heap.size w w'):CaseAt w' A0 A1 A2 A3 c0 c1 c2 c3 L C J X :=
 ⟨Kd.C_below h.hL hb,h.hu,Kd.C_below h.hC hb,Kd.C_below h.hJ hb,Kd.C_below h.hX hb,h.h0,h.h1,h.h2,h.h3⟩
theorem of_any {A0 A1 A2 A3:Option Addr} {c0 c1 c2 c3:Nat} {L:List Int} {C:List S165} {J:List S108} {X:List S93} {w:World} (h:CaseAt w A0 A1 A2 A3 c0 c1 c2 c3 L C J X) :
  Calls Tryz.prog 15 #[caseV A0 A1 A2 A3 c0 c1 c2 c3 L C J X] w fun e w'=>∃ v B0 D0 B3 B4 B5 e0 f0 e3 e4 e5,e=.returned (.tuple #[.pointer (some ⟨v,0,none⟩),vV B0 D0 B3 B4 B5 e0 f0 e3 e4 e5 (tabOf (someS L C J X)).1 (someS L C J X)])/\VocO w.heap.size w' v (someS L C J X)/\RefAt w' v B0 D0 B3 B4 B5 e0 f0 e3 e4 e5 (someS L C J X)/\w.heap.size≤v/\Below w.heap.size w w':=by
 have H:=As.mk h
 have HSM:=As.mk (fun(W:World) (hb:Below w.heap.size w W)=>some_any A0 A1 A2 A3 c0 c1 c2 c3 L C J X W (Kd.C_below H.out.hL hb) H.out.hu (Kd.C_below H.out.hC hb) H.out.h1 (Kd.C_below H.out.hJ hb) H.out.h2 (Kd.C_below H.out.hX hb))
 have HOK:=As.mk (some_ok L C J X)
 generalize someS L C J X=s at HSM HOK ⊢
 have HNEW:=As.mk (fun(W:World) (B1 B3 B4 B5:Option Addr) (d1 d3 d4 d5:Nat) (hs:SpAt W B1 B3 B4 B5 s)=>new_own d1 d3 d4 d5 hs HOK.out)
 have HOF:=As.mk (fun(W:World) (B1 B3 B4 B5:Option Addr) (d1 d3 d4 d5:Nat) (hs:SpAt W B1 B3 B4 B5 s) (hc:s.X.length≤d3)=>of_ref d1 d3 d4 d5 hs HOK.out hc)
 clear h HOK H
 unfold spV at HSM HNEW HOF
 unfold vV at HOF ⊢
 unfold caseV
 generalize hE:(tabOf s).1=E at HOF ⊢
 have HE:=As.mk hE
 clear hE
 have hz:=zeroV
 have hz2:=zeroSp
 go_enter Tryz.func15,Tryz.ntmps15
 have HB0:=As.mk (below_alloc (below_alloc (Below.refl w.heap.size w) (.cells #[.slice A0 L.length c0,.slice A1 C.length c1,.slice A2 J.length c2,.slice A3 X.length c3] 27)) (.cells #[.slice none 0 0,.slice none 0 0,.slice none 0 0,.slice none 0 0,.slice none 0 0] 38))
 have HY0:=As.mk (show ((w.alloc (.cells #[.slice A0 L.length c0,.slice A1 C.length c1,.slice A2 J.length c2,.slice A3 X.length c3] 27)).alloc (.cells #[.slice none 0 0,.slice none 0 0,.slice none 0 0,.slice none 0 0,.slice none 0 0] 38)).heap[w.heap.size+1]?=some (.cells #[.slice none 0 0,.slice none 0 0,.slice none 0 0,.slice none 0 0,.slice none 0 0] 38 (0,0)) from by have:=(Go.MapKept.heap_alloc (w.alloc (.cells #[.slice A0 L.length c0,.slice A1 C.length c1,.slice A2 J.length c2,.slice A3 X.length c3] 27)) (.cells #[.slice none 0 0,.slice none 0 0,.slice none 0 0,.slice none 0 0,.slice none 0 0] 38)).1;simpa using this)
 go_wp2_with (first
  | (go_at_call 51;refine(HSM.out _ HB0.out).mono ?_;rintro e w2 ⟨B1,B3,B4,B5,d1,d3,d4,d5,rfl,hsp,hb⟩;have HB2:=As.mk (bt_ HB0.out hb);have HY2:=As.mk ((hb.block _ (blk_lt HY0.out)).trans HY0.out);have HP2:=As.mk hsp;have HLT:=As.mk (Nat.lt_of_lt_of_le (blk_lt HY0.out) hb.size);have hba:=below_alloc (Below.refl w2.heap.size w2) (.cells #[.bool false,.slice B1 s.M.length d1,.slice none 0 0,.slice B3 s.X.length d3,.slice B4 s.C.length d4,.slice B5 s.J.length d5] 95);have HB3:=As.mk (bt_ HB2.out hba);have HY3:=As.mk ((hba.block _ (blk_lt HY2.out)).trans HY2.out);have HP3:=As.mk (HP2.out.below hba);have HS3:=As.mk (Go.MapKept.heap_alloc w2 (.cells #[.bool false,.slice B1 s.M.length d1,.slice none 0 0,.slice B3 s.X.length d3,.slice B4 s.C.length d4,.slice B5 s.J.length d5] 95)).1;have HSZ:=As.mk (show w2.heap.size≤(w2.alloc (.cells #[.bool false,.slice B1 s.M.length d1,.slice none 0 0,.slice B3 s.X.length d3,.slice B4 s.C.length d4,.slice B5 s.J.length d5] 95)).heap.size from hba.size);clear hsp hb hba HB0 HY0 HB2 HY2)
  | (go_at_call 50;refine(HNEW.out _ _ _ _ _ _ _ _ _ HP3.out.at_).mono ?_;rintro e w4 ⟨v,rfl,hv,hle,hb⟩;have HB4:=As.mk (bt_ HB3.out hb);have HY4:=As.mk ((hb.block _ (blk_lt HY3.out)).trans HY3.out);have HP4:=As.mk (HP3.out.below hb);have HX4:=As.mk (show Kd.R k165 165 w4 0 (fun k=>k≠v) (.slice B4 s.C.length d4) s.C/\Kd.R k93 93 w4 0 (fun k=>k≠v) (.slice B3 s.X.length d3) s.X/\Kd.R k108 108 w4 0 (fun k=>k≠v) (.slice B5 s.J.length d5) s.J from⟨Kd.R_below (Kd.R_lower (Kd.R_mono (Kd.R_bound HP3.out.C) (fun k hk=>by have:=hk.2.2.1;omega)) (Nat.zero_le _)) hb,Kd.R_below (Kd.R_lower (Kd.R_mono (Kd.R_bound HP3.out.X) (fun k hk=>by have:=hk.2.2.1;omega)) (Nat.zero_le _)) hb,Kd.R_below (Kd.R_lower (Kd.R_mono (Kd.R_bound HP3.out.J) (fun k hk=>by have:=hk.2.2.1;omega)) (Nat.zero_le _)) hb⟩);have HS4:=As.mk ((hb.block _ (blk_lt HS3.out)).trans HS3.out);have HV4:=As.mk hv;have HLE:=As.mk (And.intro (Nat.le_trans HSZ.out hle) (Nat.le_trans HB3.out.size hle));have HBV:=As.mk (blk_lt HY3.out);clear hv hle hb HB3 HY3 HP3 HS3;have s0:=cell_of (i:=0) HS4.out rfl;have s1:=cell_of (i:=1) HS4.out rfl;have s2:=cell_of (i:=2) HS4.out rfl;have s3:=cell_of (i:=3) HS4.out rfl;have s4:=cell_of (i:=4) HS4.out rfl;have s5:=cell_of (i:=5) HS4.out rfl)
  | (go_at_call 52;refine(HOF.out _ _ _ _ _ _ _ _ _ HP4.out.at_ (Kd.R_reads' HP4.out.X).2.1).mono ?_;rintro e w5 ⟨E0,F0,e0,f0,rfl,ho,hb⟩;have HB5:=As.mk (bt_ HB4.out hb);have HY5:=As.mk ((hb.block _ (blk_lt HY4.out)).trans HY4.out);have HP5:=As.mk (HP4.out.below hb);have HX5:=As.mk (And.intro (Kd.R_below HX4.out.1 hb) (And.intro (Kd.R_below HX4.out.2.1 hb) (Kd.R_below HX4.out.2.2 hb)));have HV5:=As.mk (HV4.out.below hb);have HO5:=As.mk (And.intro HV4.out.lt ho);clear ho hb HB4 HY4 HP4 HS4 HV4 s0 s1 s2 s3 s4 s5;have y0:=cell_of (i:=0) HY5.out rfl;have y1:=cell_of (i:=1) HY5.out rfl;have y2:=cell_of (i:=2) HY5.out rfl;have y3:=cell_of (i:=3) HY5.out rfl;have y4:=cell_of (i:=4) HY5.out rfl;have z0:=frozen_of HY5.out 0;have z1:=frozen_of HY5.out 1;have z2:=frozen_of HY5.out 2;have z3:=frozen_of HY5.out 3;have z4:=frozen_of HY5.out 4))
 have hE:=HE.out
 subst hE
 obtain⟨hvl,ho⟩:=HO5.out
 have hlt:w.heap.size+1<v:=by
  have h1:=HBV.out
  have h2:=HLE.out.2
  have h3:=HV5.out.lov
  simp only[World.alloc,Array.size_push]at h1 h3
  have h4:=HLE.out.1
  have h5:=HLT.out
  omega
 have hlo:w.heap.size+1<w2.heap.size:=HLT.out
 have g0:=blk_set HY5.out 0 (.slice E0 (bL (tabOf s).1).length e0)
 have g1:=blk_set g0 1 (.slice F0 (mL (tabOf s).1).length f0)
 have g2:=blk_set g1 2 (.slice B4 s.C.length d4)
 have g3:=blk_set g2 3 (.slice B5 s.J.length d5)
 have hle:w.heap.size≤w.heap.size+1:=Z1
 refine bodyPost_ret (v:=.tuple #[.pointer (some ⟨v,0,none⟩),.agg #[.slice E0 (bL (tabOf s).1).length e0,.slice F0 (mL (tabOf s).1).length f0,.slice B4 s.C.length d4,.slice B5 s.J.length d5,.slice B3 s.X.length d3]]) ?_ rfl ⟨v,E0,F0,B3,B4,B5,e0,f0,d3,d4,d5,rfl,?_,?_,Nat.le_trans hle (Nat.le_of_lt hlt),?_⟩
 ·simp only[results,show Tryz.f15.results=#[.tmp 2,.cell 3 38] from rfl]
  first|(go_simp;done)|(go_simp;rfl)
 ·have hfar:w.heap.size+1<(w2.alloc (.cells #[.bool false,.slice B1 s.M.length d1,.slice none 0 0,.slice B3 s.X.length d3,.slice B4 s.C.length d4,.slice B5 s.J.length d5] 95)).heap.size:=by simp;omega
  refine VocO.lower (lo:=(w2.alloc (.cells #[.bool false,.slice B1 s.M.length d1,.slice none 0 0,.slice B3 s.X.length d3,.slice B4 s.C.length d4,.slice B5 s.J.length d5] 95)).heap.size) ?_ (Z6)
  exact((((HV5.out.far (a:=⟨w.heap.size+1,0,none⟩) hfar _).far (a:=⟨w.heap.size+1,1,none⟩) hfar _).far (a:=⟨w.heap.size+1,2,none⟩) hfar _).far (a:=⟨w.heap.size+1,3,none⟩) hfar _).far (a:=⟨w.heap.size+1,4,none⟩) hfar _
 ·refine⟨⟨_,hvl,((((ho.setV HY5.out 0 _).setV g0 1 _).setV g1 2 _).setV g2 3 _).setV g3 4 _⟩,?_,?_,?_⟩
  ·exact Kd.R_set (Kd.R_set (Kd.R_set (Kd.R_set (Kd.R_set (HX5.out.2.1) HY5.out (Z31) 0 _) g0 (Z31) 1 _) g1 (Z31) 2 _) g2 (Z31) 3 _) g3 (Z31) 4 _
  ·exact Kd.R_set (Kd.R_set (Kd.R_set (Kd.R_set (Kd.R_set (HX5.out.1) HY5.out (Z31) 0 _) g0 (Z31) 1 _) g1 (Z31) 2 _) g2 (Z31) 3 _) g3 (Z31) 4 _
  ·exact Kd.R_set (Kd.R_set (Kd.R_set (Kd.R_set (Kd.R_set (HX5.out.2.2) HY5.out (Z31) 0 _) g0 (Z31) 1 _) g1 (Z31) 2 _) g2 (Z31) 3 _) g3 (Z31) 4 _
 ·exact((((HB5.out.setCell (p:=⟨w.heap.size+1,0,none⟩) hle _).setCell (p:=⟨w.heap.size+1,1,none⟩) hle _).setCell (p:=⟨w.heap.size+1,2,none⟩) hle _).setCell (p:=⟨w.heap.size+1,3,none⟩) hle _).setCell (p:=⟨w.heap.size+1,4,none⟩) hle _
end Go.Proofs.YtkffhgiiejbnaaaGreat.Rt
