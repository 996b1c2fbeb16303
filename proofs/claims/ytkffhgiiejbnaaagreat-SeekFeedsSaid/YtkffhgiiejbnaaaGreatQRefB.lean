import Derived.BigQuiet
import Derived.Test.YtkffhgiiejbnaaaGreatQRefT
import Derived.Test.YtkffhgiiejbnaaaGreatQ01
set_option maxRecDepth 100000
set_option maxHeartbeats 4000000
set_option linter.unusedVariables false
set_option linter.unusedSimpArgs false
set_option linter.unnecessarySimpa false
namespace Go.Proofs.YtkffhgiiejbnaaaGreat.Rt
open Go.RowKit YtkffhgiiejbnaaaGreatW.PrintWords YtkffhgiiejbnaaaGreatW.PrintLast YtkffhgiiejbnaaaGreatW.PrintMore Rf Aid Mp Hp Tk
structure RAt (w:World) (A B:Option Addr) (c d:Nat) (E:List Ent):Prop where
 b:Kd.C Kd.string w A (bL E).length (bL E)
 hb:(bL E).length≤c
 m:Kd.C k91 w B (mL E).length (mL E)
 hm:(mL E).length≤d
theorem RAt.below {w w':World} {A B:Option Addr} {c d:Nat} {E:List Ent} (h:RAt w A B c d E) (hb:Below w.heap.size w w'):RAt w' A B c d E:=⟨Kd.C_below h.b hb,h.hb,Kd.C_below h.m hb,h.hm⟩
def rV (A B:Option Addr) (c d:Nat) (E:List Ent):Value:=.agg #[.slice A (bL E).length c,.slice B (mL E).length d]
theorem has_any {w:World} {A B:Option Addr} {c d:Nat} {E:List Ent} (h:RAt w A B c d E) (a:Int):Calls Tryz.prog 106 #[rV A B c d E,.int .i64 a] w fun e w'=>e=.returned (.bool (hasE E a))/\Below w.heap.size w w' :=
 ligatureref04_Table_Has.calls A c (bL E) B d (mL E) a _ w h.b h.hb h.m h.hm (has_some E (mL E) a)
theorem find_any {w:World} {A B:Option Addr} {c d:Nat} {E:List Ent} (h:RAt w A B c d E) (hE:E.length≤1000000) (s:ByteArray):Calls Tryz.prog 160 #[rV A B c d E,.string s] w fun e w'=>e=.returned (.int .i64 (fdI (idxB E s)))/\Below w.heap.size w w' :=
 ligatureref04_Table_Find.calls (E.length+1) A c (bL E) B d (mL E) s _ w h.b h.hb h.m h.hm (find_some E (mL E) s hE)
def W3 (w:World) (A B:Option Addr) (c d:Nat) (E:List Ent) (a b:Int):World:=((w.alloc (.cells #[.slice A (bL E).length c,.slice B (mL E).length d] 34)).alloc (.cells #[.int .i64 a,.int .i64 b] 91)).alloc (.cells #[.slice none 0 0,.slice none 0 0] 34)
theorem W3_0 (w:World) (A B:Option Addr) (c d:Nat) (E:List Ent) (a b:Int):(W3 w A B c d E a b).heap[w.heap.size]?=some (.cells #[.slice A (bL E).length c,.slice B (mL E).length d] 34 (0,0)):=(push3 w.heap _ _ _).1
theorem W3_1 (w:World) (A B:Option Addr) (c d:Nat) (E:List Ent) (a b:Int):(W3 w A B c d E a b).heap[w.heap.size+1]?=some (.cells #[.int .i64 a,.int .i64 b] 91 (0,0)):=(push3 w.heap _ _ _).2.1
theorem W3_2 (w:World) (A B:Option Addr) (c d:Nat) (E:List Ent) (a b:Int):(W3 w A B c d E a b).heap[w.heap.size+2]?=some (.cells #[.slice none 0 0,.slice none 0 0] 34 (0,0)):=(push3 w.heap _ _ _).2.2
theorem W3_b (w:World) (A B:Option Addr) (c d:Nat) (E:List Ent) (a b:Int):Below w.heap.size w (W3 w A B c d E a b):=below_alloc (below_alloc (below_alloc (Below.refl w.heap.size w) _) _) _
theorem cell_of {w:World} {p t i:Nat} {cs:Array Value} {v:Value} (h:w.heap[p]?=some (.cells cs t (0,0))) (hv:cs[i]?=some v):w.cell? ⟨p,i,none⟩=some v:=Z75
theorem radd_has {w:World} {A B:Option Addr} {c d:Nat} {E:List Ent} (h:RAt w A B c d E) (a b:Int) (hc:¬ (hasE E a=true/\hasE E b=true)) :
  Calls Tryz.prog 125 #[rV A B c d E,.agg #[.int .i64 a,.int .i64 b]] w fun e w'=>e=.returned (.tuple #[rV A B c d E,.int .i64 4])/\Below w.heap.size w w':=by
 have HR:=As.mk (h.below (W3_b w A B c d E a b))
 have HB:=As.mk (W3_b w A B c d E a b)
 have d0:=cell_of (i:=0) (W3_0 w A B c d E a b) rfl
 have d1:=cell_of (i:=1) (W3_0 w A B c d E a b) rfl
 have e0:=cell_of (i:=0) (W3_1 w A B c d E a b) rfl
 have e1:=cell_of (i:=1) (W3_1 w A B c d E a b) rfl
 have f0:=cell_of (i:=0) (W3_2 w A B c d E a b) rfl
 have f1:=cell_of (i:=1) (W3_2 w A B c d E a b) rfl
 have hz:∀ w,(zeroValue 34).run Tryz.prog w=.ok (.agg #[.slice none 0 0,.slice none 0 0]) w:=fun w=>Z15
 have HA:=As.mk (has_any HR.out a)
 unfold rV at HA
 have hlen:∀ w',Below (W3 w A B c d E a b).heap.size (W3 w A B c d E a b) w'->w'.heap[w.heap.size]?=some (.cells #[.slice A (bL E).length c,.slice B (mL E).length d] 34 (0,0))/\w'.heap[w.heap.size+1]?=some (.cells #[.int .i64 a,.int .i64 b] 91 (0,0))/\w'.heap[w.heap.size+2]?=some (.cells #[.slice none 0 0,.slice none 0 0] 34 (0,0)):=fun w' hb =>
  ⟨(hb.block _ (blk_lt (W3_0 w A B c d E a b))).trans (W3_0 w A B c d E a b),(hb.block _ (blk_lt (W3_1 w A B c d E a b))).trans (W3_1 w A B c d E a b),(hb.block _ (blk_lt (W3_2 w A B c d E a b))).trans (W3_2 w A B c d E a b)⟩
 have HL:=As.mk hlen
 clear hlen d0 d1 e0 e1 f0 f1 h
 unfold rV
 cases ha:hasE E a with
 | false =>
  rw[ha]at HA
  clear ha hc
  go_enter Tryz.func125,Tryz.ntmps125
  go_wp2_with (go_at_call 106;refine HA.out.mono ?_;rintro e w1 ⟨rfl,hb⟩;have h3:=HL.out _ hb;have d0:=cell_of (i:=0) h3.1 rfl;have d1:=cell_of (i:=1) h3.1 rfl;have f0:=cell_of (i:=0) h3.2.2 rfl;have f1:=cell_of (i:=1) h3.2.2 rfl;have z0:=frozen_of h3.2.2 0;have z1:=frozen_of h3.2.2 1;have HB1:=As.mk (bt_ HB.out hb);clear hb h3)
  refine bodyPost_ret (v:=.tuple #[.agg #[.slice A (bL E).length c,.slice B (mL E).length d],.int .i64 4]) ?_ rfl ⟨rfl,?_⟩
  ·simp only[results,show Tryz.f125.results=#[.cell 4 34,.tmp 5] from rfl]
   first|(go_simp;done)|(go_simp;rfl)
  ·exact(HB1.out.setCell (p:=⟨w.heap.size+2,0,none⟩) (Z68) _).setCell (p:=⟨w.heap.size+2,1,none⟩) (Z68) _
 | true =>
  have hb0:hasE E b=false:=by
   cases hb:hasE E b with
   | false=>rfl
   | true=>exact absurd ⟨ha,hb⟩ hc
  have HA2:=As.mk (fun(W:World) (h:RAt W A B c d E)=>has_any h b)
  unfold rV at HA2
  rw[ha]at HA
  rw[hb0]at HA2
  clear ha hb0 hc
  go_enter Tryz.func125,Tryz.ntmps125
  go_wp2_with (first
   | (go_at_call 106;refine HA.out.mono ?_;rintro e w1 ⟨rfl,hb⟩;have h3:=HL.out _ hb;have d0:=cell_of (i:=0) h3.1 rfl;have d1:=cell_of (i:=1) h3.1 rfl;have e1:=cell_of (i:=1) h3.2.1 rfl;have HQ1:=As.mk hb;clear hb h3 HA)
   | (go_at_call 106;refine(HA2.out _ (HR.out.below HQ1.out)).mono ?_;rintro e w2 ⟨rfl,hb⟩;have hq:=bt_ HQ1.out hb;have h3:=HL.out _ hq;clear d0 d1 e1;have d0:=cell_of (i:=0) h3.1 rfl;have d1:=cell_of (i:=1) h3.1 rfl;have f0:=cell_of (i:=0) h3.2.2 rfl;have f1:=cell_of (i:=1) h3.2.2 rfl;have z0:=frozen_of h3.2.2 0;have z1:=frozen_of h3.2.2 1;have HB1:=As.mk (bt_ HB.out hq);clear hb h3 hq))
  refine bodyPost_ret (v:=.tuple #[.agg #[.slice A (bL E).length c,.slice B (mL E).length d],.int .i64 4]) ?_ rfl ⟨rfl,?_⟩
  ·simp only[results,show Tryz.f125.results=#[.cell 4 34,.tmp 5] from rfl]
   first|(go_simp;done)|(go_simp;rfl)
  ·exact(HB1.out.setCell (p:=⟨w.heap.size+2,0,none⟩) (Z68) _).setCell (p:=⟨w.heap.size+2,1,none⟩) (Z68) _
theorem radd_no {w:World} {A B:Option Addr} {c d:Nat} {E:List Ent} (h:RAt w A B c d E) (hE:Tk.Good E) (a b:Int) (ha:hasE E a=true) (hb:hasE E b=true) (hc:addC E a b≠0) :
  Calls Tryz.prog 125 #[rV A B c d E,.agg #[.int .i64 a,.int .i64 b]] w fun e w'=>e=.returned (.tuple #[rV A B c d E,.int .i64 (addC E a b)])/\Below w.heap.size w w':=by
 have HR:=As.mk (h.below (W3_b w A B c d E a b))
 have HB:=As.mk (W3_b w A B c d E a b)
 have HL:=As.mk (show ∀ w',Below (W3 w A B c d E a b).heap.size (W3 w A B c d E a b) w'->w'.heap[w.heap.size]?=some (.cells #[.slice A (bL E).length c,.slice B (mL E).length d] 34 (0,0))/\w'.heap[w.heap.size+1]?=some (.cells #[.int .i64 a,.int .i64 b] 91 (0,0))/\w'.heap[w.heap.size+2]?=some (.cells #[.slice none 0 0,.slice none 0 0] 34 (0,0)) from fun w' hb =>
  ⟨(hb.block _ (blk_lt (W3_0 w A B c d E a b))).trans (W3_0 w A B c d E a b),(hb.block _ (blk_lt (W3_1 w A B c d E a b))).trans (W3_1 w A B c d E a b),(hb.block _ (blk_lt (W3_2 w A B c d E a b))).trans (W3_2 w A B c d E a b)⟩)
 have hz:∀ w,(zeroValue 34).run Tryz.prog w=.ok (.agg #[.slice none 0 0,.slice none 0 0]) w:=fun w=>Z15
 have HA1:=As.mk (has_any HR.out a)
 have HA2:=As.mk (fun(W:World) (h:RAt W A B c d E)=>has_any h b)
 rw[ha]at HA1
 rw[hb]at HA2
 have hcode:addC E a b=if 64<(sumB E a b).size then 3 else if 1000≤E.length then 5 else if (idxB E (sumB E a b)).isSome then 10 else 0:=by unfold addC;rw[if_pos ⟨ha,hb⟩]
 unfold rV at HA1 HA2 ⊢
 go_enter Tryz.func125,Tryz.ntmps125
 go_wp2_with (first
   | (go_at_call 106;refine HA1.out.mono ?_;rintro e w1 ⟨rfl,hb⟩;have h3:=HL.out _ hb;have d0:=cell_of (i:=0) h3.1 rfl;have d1:=cell_of (i:=1) h3.1 rfl;have e1:=cell_of (i:=1) h3.2.1 rfl;have HQ1:=As.mk hb;clear hb h3 HA1)
   | (go_at_call 106;refine(HA2.out _ (HR.out.below HQ1.out)).mono ?_;rintro e w2 ⟨rfl,hb⟩;have hq:=bt_ HQ1.out hb;have h3:=HL.out _ hq;clear d0 d1 e1;have d0:=cell_of (i:=0) h3.1 rfl;have d1:=cell_of (i:=1) h3.1 rfl;have e0:=cell_of (i:=0) h3.2.1 rfl;have e1:=cell_of (i:=1) h3.2.1 rfl;have HQ2:=As.mk hq;clear hb h3 hq))
 have ha1:0≤a/\a<(E.length:Int):=of_decide_eq_true ha
 have hb1:0≤b/\b<(E.length:Int):=of_decide_eq_true hb
 have HR2:=As.mk (HR.out.below HQ2.out)
 obtain⟨ad,rfl,x0⟩:=Kd.at_string HR2.out.b a ha1.1 (Z76)
 obtain⟨ad',e',y0⟩:=Kd.at_string HR2.out.b b hb1.1 (Z77)
 injection e' with e'
 subst e'
 rw[rd_byt ha]at x0
 rw[rd_byt hb]at y0
 have hs1:=byt_small' hE a
 have hs2:=byt_small' hE b
 have HM:=As.mk (And.intro hcode (And.intro (show sumB E a b=byt E a++byt E b from rfl) hE))
 have hLa:a<((bL E).length:Int):=Z76
 have hLb:b<((bL E).length:Int):=Z77
 have hba:=ha1.1
 have hbb:=hb1.1
 have HC:=As.mk hc
 clear hcode hE ha hb ha1 hb1 hc h
 generalize byt E a=s1 at x0 hs1 HM
 generalize byt E b=s2 at y0 hs2 HM
 go_quiet (fail)
 have HQ3:=As.mk (bt_ HQ2.out (pw_below_drewN (Below.refl w2.heap.size w2) nq))
 have HB3:=As.mk (bt_ HB.out HQ3.out)
 have HR3:=As.mk (HR.out.below HQ3.out)
 clear d0 d1 e0 e1 x0 y0 HQ2 HR2 HQ1 HR
 generalize w2.drewN nq=w3 at HQ3 HB3 HR3 ⊢
 have h3:=HL.out _ HQ3.out
 have d0:=cell_of (i:=0) h3.1 rfl
 have d1:=cell_of (i:=1) h3.1 rfl
 have e0:=cell_of (i:=0) h3.2.1 rfl
 have e1:=cell_of (i:=1) h3.2.1 rfl
 have f0:=cell_of (i:=0) h3.2.2 rfl
 have f1:=cell_of (i:=1) h3.2.2 rfl
 have z0:=frozen_of h3.2.2 0
 have z1:=frozen_of h3.2.2 1
 clear h3
 rw[←HM.out.2.1]
 generalize sumB E a b=s at HM ⊢
 by_cases h64:64<s.size
 ·have h64i:(64:Int)<(s.size:Int):=by omega
  have HZ:=As.mk (HM.out.1.trans (if_pos h64))
  clear h64
  go_wp2
  refine bodyPost_ret (v:=.tuple #[.agg #[.slice (some ad) (bL E).length c,.slice B (mL E).length d],.int .i64 3]) ?_ rfl ⟨by rw[HZ.out],?_⟩
  ·simp only[results,show Tryz.f125.results=#[.cell 4 34,.tmp 5] from rfl]
   first|(go_simp;done)|(go_simp;rfl)
  ·exact(HB3.out.setCell (p:=⟨w.heap.size+2,0,none⟩) (Z68) _).setCell (p:=⟨w.heap.size+2,1,none⟩) (Z68) _
 have h64i:¬ (64:Int)<(s.size:Int):=Z1
 by_cases h1000:1000≤E.length
 ·have h1000i:(1000:Int)≤((bL E).length:Int):=by rw[bL_len];omega
  have HZ:=As.mk (HM.out.1.trans ((if_neg h64).trans (if_pos h1000)))
  clear h64 h1000
  go_wp2
  refine bodyPost_ret (v:=.tuple #[.agg #[.slice (some ad) (bL E).length c,.slice B (mL E).length d],.int .i64 5]) ?_ rfl ⟨by rw[HZ.out],?_⟩
  ·simp only[results,show Tryz.f125.results=#[.cell 4 34,.tmp 5] from rfl]
   first|(go_simp;done)|(go_simp;rfl)
  ·exact(HB3.out.setCell (p:=⟨w.heap.size+2,0,none⟩) (Z68) _).setCell (p:=⟨w.heap.size+2,1,none⟩) (Z68) _
 have h1000i:¬ (1000:Int)≤((bL E).length:Int):=by rw[bL_len];omega
 cases hi:idxB E s with
 | none=>exact absurd (HM.out.1.trans ((if_neg h64).trans ((if_neg h1000).trans (by rw[hi];rfl)))) HC.out
 | some i =>
  have HZ:=As.mk (show addC E a b=10 from HM.out.1.trans ((if_neg h64).trans ((if_neg h1000).trans (by rw[hi];rfl))))
  have HF:=As.mk (find_any HR3.out (by have:=HM.out.2.2.many;omega) s)
  rw[hi]at HF
  unfold rV fdI at HF
  simp only at HF
  clear h64 h1000 hi
  go_wp2_with (go_at_call 160;refine HF.out.mono ?_;rintro e w4 ⟨rfl,hb⟩;have h3:=HL.out _ (bt_ HQ3.out hb);clear d0 d1 e0 e1 f0 f1 z0 z1;have d0:=cell_of (i:=0) h3.1 rfl;have d1:=cell_of (i:=1) h3.1 rfl;have f0:=cell_of (i:=0) h3.2.2 rfl;have f1:=cell_of (i:=1) h3.2.2 rfl;have z0:=frozen_of h3.2.2 0;have z1:=frozen_of h3.2.2 1;have HB4:=As.mk (bt_ HB3.out hb);clear hb h3)
  refine bodyPost_ret (v:=.tuple #[.agg #[.slice (some ad) (bL E).length c,.slice B (mL E).length d],.int .i64 10]) ?_ rfl ⟨by rw[HZ.out],?_⟩
  ·simp only[results,show Tryz.f125.results=#[.cell 4 34,.tmp 5] from rfl]
   first|(go_simp;done)|(go_simp;rfl)
  ·exact(HB4.out.setCell (p:=⟨w.heap.size+2,0,none⟩) (Z68) _).setCell (p:=⟨w.heap.size+2,1,none⟩) (Z68) _
end Go.Proofs.YtkffhgiiejbnaaaGreat.Rt
namespace Go.Proofs.YtkffhgiiejbnaaaGreat.Rt
open Go.RowKit YtkffhgiiejbnaaaGreatW.PrintWords YtkffhgiiejbnaaaGreatW.PrintLast YtkffhgiiejbnaaaGreatW.PrintMore Rf Aid Mp Hp Tk
structure ROwn (w:World) (base:Nat) (A B:Option Addr) (c d:Nat) (E:List Ent):Prop where
 b:Kd.R Kd.string 9 w base (fun _=>True) (.slice A (bL E).length c) (bL E)
 m:Kd.R k91 91 w base (fun _=>True) (.slice B (mL E).length d) (mL E)
theorem ROwn.at_ {w:World} {base:Nat} {A B:Option Addr} {c d:Nat} {E:List Ent} (h:ROwn w base A B c d E):RAt w A B c d E:=⟨(Kd.R_reads' h.b).2.2,(Kd.R_reads' h.b).2.1,(Kd.R_reads' h.m).2.2,(Kd.R_reads' h.m).2.1⟩
theorem ROwn.below {w w':World} {base:Nat} {A B:Option Addr} {c d:Nat} {E:List Ent} (h:ROwn w base A B c d E) (hb:Below w.heap.size w w'):ROwn w' base A B c d E:=⟨Kd.R_below h.b hb,Kd.R_below h.m hb⟩
theorem ROwn.lower {w:World} {base base':Nat} {A B:Option Addr} {c d:Nat} {E:List Ent} (h:ROwn w base A B c d E) (hb:base'≤base):ROwn w base' A B c d E:=⟨Kd.R_lower h.b hb,Kd.R_lower h.m hb⟩
theorem ROwn.set {w:World} {base g:Nat} {cells:Array Value} {A B:Option Addr} {c d:Nat} {E:List Ent} (h:ROwn w base A B c d E) (hb:w.heap[g]?=some (.cells cells 34 (0,0))) (j:Nat) (u:Value):ROwn (w.setCell ⟨g,j,none⟩ u) base A B c d E:=⟨Kd.R_set h.b hb (Z31) j u,Kd.R_set h.m hb (Z31) j u⟩
theorem C_blk_str {W:World} {g:Nat} {s:ByteArray} (h:W.heap[g]?=some (.cells #[.string s] 9 (0,0))):Kd.C Kd.string W (some ⟨g,0,none⟩) 1 [s]:=by
 refine⟨rfl,Z31,fun _=>⟨_,rfl,fun j p hj=>?_⟩⟩
 cases j with
 | succ j=>simp at hj
 | zero =>
  simp only[List.getElem?_cons_zero,Option.some.injEq]at hj
  subst hj
  refine⟨[.string s],rfl,rfl,fun i u hu=>?_⟩
  cases i with
  | succ i=>simp at hu
  | zero=>exact cell_of h hu
theorem C_blk_mrg {W:World} {g:Nat} {a b:Int} (h:W.heap[g]?=some (.cells #[.int .i64 a,.int .i64 b] 91 (0,0))):Kd.C k91 W (some ⟨g,0,none⟩) 1 [⟨a,b⟩]:=by
 refine⟨rfl,Z31,fun _=>⟨_,rfl,fun j p hj=>?_⟩⟩
 cases j with
 | succ j=>simp at hj
 | zero =>
  simp only[List.getElem?_cons_zero,Option.some.injEq]at hj
  subst hj
  refine⟨[.int .i64 a,.int .i64 b],rfl,k91_mk _ ⟨a,b⟩,fun i u hu=>?_⟩
  have e1:(⟨g,0,none⟩:Addr).add (0 * 2+i)=⟨g,i,none⟩:=Z63
  show W.cell? ((⟨g,0,none⟩:Addr).add (0 * 2+i))=_
  rw[e1]
  exact cell_of h (by simpa using hu)
theorem mL_le (E:List Ent):(mL E).length≤E.length:=Z78
theorem bL_snoc (E:List Ent) (x:Ent):bL (E++[x])=bL E++[x.f0]:=by simp[bL]
theorem mL_snoc {E:List Ent} (h:256≤E.length) (x:Ent):mL (E++[x])=mL E++[⟨x.f1,x.f2⟩]:=by unfold mL;rw[List.drop_append_of_le_length h,List.map_append];rfl
theorem radd_yes {w:World} {A B:Option Addr} {c d:Nat} {E:List Ent} (h:RAt w A B c d E) (hE:Tk.Good E) (a b:Int) (ha:hasE E a=true) (hb:hasE E b=true) (hc:addC E a b=0) :
  Calls Tryz.prog 125 #[rV A B c d E,.agg #[.int .i64 a,.int .i64 b]] w fun e w'=>∃ A2 B2 c2 d2,e=.returned (.tuple #[rV A2 B2 c2 d2 (E++[newE E a b]),.int .i64 0])/\ROwn w' w.heap.size A2 B2 c2 d2 (E++[newE E a b])/\Below w.heap.size w w':=by
 have HR:=As.mk (h.below (W3_b w A B c d E a b))
 have HB:=As.mk (W3_b w A B c d E a b)
 have HL:=As.mk (show ∀ w',Below (W3 w A B c d E a b).heap.size (W3 w A B c d E a b) w'->w'.heap[w.heap.size]?=some (.cells #[.slice A (bL E).length c,.slice B (mL E).length d] 34 (0,0))/\w'.heap[w.heap.size+1]?=some (.cells #[.int .i64 a,.int .i64 b] 91 (0,0))/\w'.heap[w.heap.size+2]?=some (.cells #[.slice none 0 0,.slice none 0 0] 34 (0,0)) from fun w' hb =>
  ⟨(hb.block _ (blk_lt (W3_0 w A B c d E a b))).trans (W3_0 w A B c d E a b),(hb.block _ (blk_lt (W3_1 w A B c d E a b))).trans (W3_1 w A B c d E a b),(hb.block _ (blk_lt (W3_2 w A B c d E a b))).trans (W3_2 w A B c d E a b)⟩)
 have hz:∀ w,(zeroValue 34).run Tryz.prog w=.ok (.agg #[.slice none 0 0,.slice none 0 0]) w:=fun w=>Z15
 have HA1:=As.mk (has_any HR.out a)
 have HA2:=As.mk (fun(W:World) (h:RAt W A B c d E)=>has_any h b)
 rw[ha]at HA1
 rw[hb]at HA2
 have hcode:addC E a b=if 64<(sumB E a b).size then 3 else if 1000≤E.length then 5 else if (idxB E (sumB E a b)).isSome then 10 else 0:=by unfold addC;rw[if_pos ⟨ha,hb⟩]
 unfold rV at HA1 HA2 ⊢
 go_enter Tryz.func125,Tryz.ntmps125
 go_wp2_with (first
   | (go_at_call 106;refine HA1.out.mono ?_;rintro e w1 ⟨rfl,hb⟩;have h3:=HL.out _ hb;have d0:=cell_of (i:=0) h3.1 rfl;have d1:=cell_of (i:=1) h3.1 rfl;have e1:=cell_of (i:=1) h3.2.1 rfl;have HQ1:=As.mk hb;clear hb h3 HA1)
   | (go_at_call 106;refine(HA2.out _ (HR.out.below HQ1.out)).mono ?_;rintro e w2 ⟨rfl,hb⟩;have hq:=bt_ HQ1.out hb;have h3:=HL.out _ hq;clear d0 d1 e1;have d0:=cell_of (i:=0) h3.1 rfl;have d1:=cell_of (i:=1) h3.1 rfl;have e0:=cell_of (i:=0) h3.2.1 rfl;have e1:=cell_of (i:=1) h3.2.1 rfl;have HQ2:=As.mk hq;clear hb h3 hq))
 have ha1:0≤a/\a<(E.length:Int):=of_decide_eq_true ha
 have hb1:0≤b/\b<(E.length:Int):=of_decide_eq_true hb
 have HR2:=As.mk (HR.out.below HQ2.out)
 obtain⟨ad,rfl,x0⟩:=Kd.at_string HR2.out.b a ha1.1 (Z76)
 obtain⟨ad',e',y0⟩:=Kd.at_string HR2.out.b b hb1.1 (Z77)
 injection e' with e'
 subst e'
 rw[rd_byt ha]at x0
 rw[rd_byt hb]at y0
 have hs1:=byt_small' hE a
 have hs2:=byt_small' hE b
 have HM:=As.mk (And.intro hcode (And.intro (show sumB E a b=byt E a++byt E b from rfl) hE))
 have hLa:a<((bL E).length:Int):=Z76
 have hLb:b<((bL E).length:Int):=Z77
 have hba:=ha1.1
 have hbb:=hb1.1
 have HC:=As.mk hc
 clear hcode hE ha hb ha1 hb1 hc h
 generalize byt E a=s1 at x0 hs1 HM
 generalize byt E b=s2 at y0 hs2 HM
 go_quiet (fail)
 have HQ3:=As.mk (bt_ HQ2.out (pw_below_drewN (Below.refl w2.heap.size w2) nq))
 have HB3:=As.mk (bt_ HB.out HQ3.out)
 have HR3:=As.mk (HR.out.below HQ3.out)
 clear d0 d1 e0 e1 x0 y0 HQ2 HR2 HQ1 HR
 generalize w2.drewN nq=w3 at HQ3 HB3 HR3 ⊢
 have h3:=HL.out _ HQ3.out
 have d0:=cell_of (i:=0) h3.1 rfl
 have d1:=cell_of (i:=1) h3.1 rfl
 have e0:=cell_of (i:=0) h3.2.1 rfl
 have e1:=cell_of (i:=1) h3.2.1 rfl
 have f0:=cell_of (i:=0) h3.2.2 rfl
 have f1:=cell_of (i:=1) h3.2.2 rfl
 have z0:=frozen_of h3.2.2 0
 have z1:=frozen_of h3.2.2 1
 clear h3
 rw[←HM.out.2.1]
 generalize hs0:sumB E a b=s at HM ⊢
 have HS0:=As.mk hs0
 clear hs0
 have h64:¬ 64<s.size:=fun h=>by have:=HM.out.1;rw[HC.out,if_pos h]at this;cases this
 have h1000:¬ 1000≤E.length:=fun h=>by have:=HM.out.1;rw[HC.out,if_neg h64,if_pos h]at this;cases this
 have hi:idxB E s=none:=by
  have:=HM.out.1
  rw[HC.out,if_neg h64,if_neg h1000]at this
  cases hi:idxB E s with
  | none=>rfl
  | some i=>rw[hi]at this;cases this
 have h64i:¬ (64:Int)<(s.size:Int):=Z1
 have h1000i:¬ (1000:Int)≤((bL E).length:Int):=by rw[bL_len];omega
 have HF:=As.mk (find_any HR3.out (by have:=HM.out.2.2.many;omega) s)
 rw[hi]at HF
 unfold rV fdI at HF
 simp only at HF
 have HN:=As.mk (And.intro h64 (And.intro h1000 hi))
 clear h64 h1000 hi
 go_wp2_with (first
  | (go_at_call 160;refine HF.out.mono ?_;rintro e w4 ⟨rfl,hb⟩;have HQ4:=As.mk (bt_ HQ3.out hb);have h3:=HL.out _ HQ4.out;clear d0 d1 e0 e1 f0 f1 z0 z1;have d0:=cell_of (i:=0) h3.1 rfl;have d1:=cell_of (i:=1) h3.1 rfl;have HB4:=As.mk (bt_ HB3.out hb);have HR4:=As.mk (HR3.out.below hb);clear hb h3)
  | ((with_reducible refine gate_builtin (b:=.append) (xs:=#[.tmp 52,.tmp 54]) rfl ?_);at_builtin;refine Kd.R_append_rows Kd.string (Rr:=Kd.string.K w4) (w0:=w4) w4.heap.size rfl (.tmp 52) (.tmp 54) 31 9 (.string ⟨#[]⟩) 16 rfl Tryz.underlying31 info9 rfl (Z31) (Z1) _ [] (bL E) (some ad) (bL E).length c (fun _=>True) (fun _=>False) (by rfl) (by rfl) ?q1 ?q2 ?q3 (fun _ hk=>hk.elim) (fun _ _=>trivial) ?q4 ?q5 ?q6 ?_;(case q1=>exact Kd.R_nil _ _ _ _ _);(case q2=>exact HR4.out.b.imp_ (Below.refl _ _) (fun _ _ h=>h));(case q3=>intro x cs hk;exact hk);(case q4=>exact Below.refl _ _);(case q5=>exact Nat.le_refl _);(case q6=>have h1:=HN.out.2.1;simp only[List.length_nil];rw[bL_len];omega);intro v5 w5 ho hb hg hat;have HO5:=As.mk ho;have HQ5:=As.mk (bt_ HQ4.out hb);have HB5:=As.mk (bt_ HB4.out hb);have HR5:=As.mk (HR4.out.below hb);have h3:=HL.out _ HQ5.out;clear d0 d1;have d0:=cell_of (i:=0) h3.1 rfl;have d1:=cell_of (i:=1) h3.1 rfl;have HT45:=As.mk hb;clear ho hb hg hat h3 HB4 HR4)
  | ((with_reducible refine gate_builtin (b:=.append) (xs:=#[.tmp 56,.tmp 58]) rfl ?_);at_builtin;refine Kd.R_append_rows k91 (Rr:=k91.K w5) (w0:=w5) w5.heap.size rfl (.tmp 56) (.tmp 58) 32 91 (.agg #[.int .i64 0,.int .i64 0]) 16 rfl Tryz.underlying32 info91 rfl (Z31) (Z1) _ [] (mL E) B (mL E).length d (fun _=>True) (fun _=>False) (by rfl) (by rfl) ?q1 ?q2 ?q3 (fun _ hk=>hk.elim) (fun _ _=>trivial) ?q4 ?q5 ?q6 ?_;(case q1=>exact Kd.R_nil _ _ _ _ _);(case q2=>exact HR5.out.m.imp_ (Below.refl _ _) (fun _ _ h=>h));(case q3=>intro x cs hk;obtain rfl:=k91_open hk;exact k91_mkM _ _ _ x);(case q4=>exact Below.refl _ _);(case q5=>exact Nat.le_refl _);(case q6=>have h1:=HN.out.2.1;have h2:=mL_le E;simp only[List.length_nil];omega);intro v6 w6 ho hb hg hat;have HP6:=As.mk ho;have HQ6:=As.mk (bt_ HQ5.out hb);have HT6:=As.mk hb;have HB6:=As.mk (bt_ HB5.out hb);have HO6:=As.mk (Kd.R_lower (Kd.R_below HO5.out hb) (Nat.le_refl _));clear ho hb hg hat HQ5 HB5 HR5 HO5 d0 d1))
 have h256:=HM.out.2.2.many.1
 rw[List.nil_append]at HO6 HP6
 refine start_ (n:=11) (S:=fun w'=>Below (W3 w (some ad) B c d E a b).heap.size (W3 w (some ad) B c d E a b) w') (ds:=[9]) #[false,false,false,false,false,false,false,false,false,false,false] (Z15) rfl rfl (bt_ HQ6.out (below_drew1 (Below.refl _ _))) (fun hHeld=>?_)
 have hq:=below_drew1 (Below.refl w6.heap.size w6);have HO7:=As.mk (Kd.R_below HO6.out hq);have HP7:=As.mk (Kd.R_below HP6.out hq);have HT7:=As.mk (bt_ HT6.out hq);have HB7:=As.mk (bt_ HB6.out hq);clear hq HO6 HP6 HT6 HB6 HQ6;generalize w6.drew=w7 at HO7 HP7 HT7 HB7 hHeld ⊢
 refine pI 0 (some 60) (bs 11 1) ?_
 refine pI 1 (some 61) (bs 11 3) ?_
 refine pI 4 (some 64) (bs 11 19) ?_
 refine tI 5 (some 65) (bs 11 51) rfl (by intro w' hS';have s0:=hS';have h3:=HL.out _ hS';have e0:=cell_of (i:=0) h3.2.1 rfl;have e1:=cell_of (i:=1) h3.2.1 rfl;go_simp;with_reducible rfl) hHeld ?_
 have HS7:=As.mk hHeld
 clear hHeld
 have HV7:=As.mk HT7.out.size
 have hsz:(W3 w (some ad) B c d E a b).heap.size≤w4.heap.size:=HQ4.out.size
 have HWW:=As.mk HB.out.size
 have hle4:w4.heap.size≤w7.heap.size:=Nat.le_trans HT45.out.size HT7.out.size
 refine join_ 4 #[true,true,true,true,true,true,true,false,false,false,false] (fun(q:Value × Value × Value)=>[(62,q.1),(63,q.2.1),(66,q.2.2)])
  (fun(q:Value × Value × Value) w'=>Below (W3 w (some ad) B c d E a b).heap.size (W3 w (some ad) B c d E a b) w'/\Below w.heap.size w w'/\w5.heap.size≤w'.heap.size/\Kd.R Kd.string 9 w' w4.heap.size (fun _=>True) q.2.1 (bL E++[s])/\Kd.R k91 91 w' w5.heap.size (fun _=>True) v6 (mL E)/\∃ g,q.2.2=.slice (some ⟨g,0,none⟩) 1 1/\w'.heap[g]?=some (.cells #[.int .i64 a,.int .i64 b] 91 (0,0))) ?_ ?_
 ·rintro⟨V2,V3,V6⟩ w8 ⟨hS8,hB8,HLE8,hO8,hP8,g,hg8,hC8⟩
  subst hg8
  obtain⟨A3,c3,rfl⟩:=Kd.R_slice hO8
  refine norm_ (a':=?_) ?_ ?_
  rotate_left
  ·(simp only[Act.put,putAll,List.setIfInBounds_toArray,List.set_cons_zero,List.set_cons_succ];rfl)
  have h5:w5.heap.size≤w8.heap.size:=HLE8
  refine one_ (i:=7) (N:=some 67) (bs 11 255) rfl rfl (Z15) (Z31) (fun K hK=>?_)
  refine Kd.R_append_rows_step k91 (Rr:=k91.K w8) (w0:=w8) w5.heap.size (by rfl) (.tmp 64) (.tmp 66) 32 91 (.agg #[.int .i64 0,.int .i64 0]) 16 rfl Tryz.underlying32 info91 rfl (Z31) (Z1) v6 (mL E) [⟨a,b⟩] (some ⟨g,0,none⟩) 1 1 (fun _=>True) (fun _=>False) (by rfl) (by rfl) hP8 ((C_blk_mrg hC8).imp_ (Below.refl _ _) (fun _ _ h=>h)) (fun x cs hk=>by obtain rfl:=k91_open hk;exact k91_mkM _ _ _ x) (fun _ hk=>hk.elim) (fun _ _=>trivial) (Below.refl _ _) h5 (by have h1:=HN.out.2.1;have h2:=mL_le E;omega) ?_
  intro v10 w10 ho hb hg hat
  have hS10:=hS8.trans (hb.mono (Nat.le_trans hsz HT45.out.size))
  have hB10:=hB8.trans (hb.mono (Nat.le_trans HWW.out (Nat.le_trans hsz HT45.out.size)))
  have hO10:=Kd.R_over hO8 hP8 (Z31) hg
  obtain⟨A4,c4,rfl⟩:=Kd.R_slice ho
  refine hK.out _ _ hS10 (fun hHeld=>?_)
  clear hK K hHeld
  refine nI ?_
  refine pI 8 (some 68) (bs 11 511) ?_
  refine last_ (i:=9) (N:=none) (bs 11 1023) rfl rfl (Z15) (Z31) (fun K hK=>?_)
  have h3:=HL.out _ hS10
  have f0:=cell_of (i:=0) h3.2.2 rfl
  have f1:=cell_of (i:=1) h3.2.2 rfl
  have z0:=frozen_of h3.2.2 0
  have z1:=frozen_of h3.2.2 1
  refine skip_ (w1:=(w10.setCell ⟨w.heap.size+2,0,none⟩ (.slice A3 (bL E++[s]).length c3)).setCell ⟨w.heap.size+2,1,none⟩ (.slice A4 (mL E++[(⟨a,b⟩:S91)]).length c4)) (by rfl) rfl ?_ ?_
  ·first|(go_simp;done)|(go_simp;rfl)
  refine hK.out _ _ ?_
  clear hK K
  refine pI 10 (some 5) (bs 11 2047) ?_
  refine done_ (Z15) ?_
  have hblk:=HL.out _ hS10
  have hO12:=Kd.R_set (Kd.R_set hO10 hblk.2.2 (Z31) 0 (.slice A3 (bL E++[s]).length c3)) (blk_set hblk.2.2 0 _) (Z31) 1 (.slice A4 (mL E++[(⟨a,b⟩:S91)]).length c4)
  have hP12:=Kd.R_set (Kd.R_set ho hblk.2.2 (Z31) 0 (.slice A3 (bL E++[s]).length c3)) (blk_set hblk.2.2 0 _) (Z31) 1 (.slice A4 (mL E++[(⟨a,b⟩:S91)]).length c4)
  have HO12:=As.mk hO12
  have HP12:=As.mk hP12
  have HB10:=As.mk hB10
  have f0:=cell_of (i:=0) hblk.2.2 rfl
  have f1:=cell_of (i:=1) hblk.2.2 rfl
  have eb:bL (E++[newE E a b])=bL E++[s]:=by rw[bL_snoc];unfold newE;rw[HS0.out]
  have em:mL (E++[newE E a b])=mL E++[(⟨a,b⟩:S91)]:=by rw[mL_snoc h256];rfl
  have HE:=As.mk (And.intro eb em)
  clear hO12 hP12 hO10 hB10 ho hblk hb hg hat h3 eb em hS8 hB8 HLE8 hO8 hP8 hC8 HL HM HF
  go_wp2
  refine bodyPost_ret (v:=.tuple #[.agg #[.slice A3 (bL E++[s]).length c3,.slice A4 (mL E++[(⟨a,b⟩:S91)]).length c4],.int .i64 0]) ?_ rfl ⟨A3,A4,c3,c4,?_,?_,?_⟩
  ·simp only[results,show Tryz.f125.results=#[.cell 4 34,.tmp 5] from rfl]
   first|(go_simp;done)|(go_simp;rfl)
  ·rw[HE.out.1,HE.out.2]
  ·exact⟨by rw[HE.out.1];have h:=Kd.R_lower HO12.out (Nat.le_trans HWW.out hsz);simp only[List.length_append,List.length_cons,List.length_nil,Nat.zero_add]at h ⊢;exact h,by rw[HE.out.2];have h:=Kd.R_lower HP12.out (Nat.le_trans (Nat.le_trans HWW.out hsz) HT45.out.size);simp only[List.length_append,List.length_cons,List.length_nil,Nat.zero_add]at h ⊢;exact h⟩
  ·have h:=(HB10.out.setCell (p:=⟨w.heap.size+2,0,none⟩) (Z68) (.slice A3 (bL E++[s]).length c3)).setCell (p:=⟨w.heap.size+2,1,none⟩) (Z68) (.slice A4 (mL E++[(⟨a,b⟩:S91)]).length c4)
   simp only[List.length_append,List.length_cons,List.length_nil,Nat.zero_add]at h ⊢;exact h
 ·intro hcont
  refine two_ (i:=2) (j:=6) (Ni:=some 62) (Nj:=some 66) #[true,true,true,false,true,true,false,false,false,false,false] #[true,true,false,false,true,true,true,false,false,false,false] rfl rfl rfl rfl (Z15) (Z31) (Z31) (fun K hK=>?_) (fun K hK=>?_)
  ·refine value_ (w1:=w7.alloc (.cells #[.string s] 9)) (v:=.slice (some ⟨w7.heap.size,0,none⟩) 1 1) (by rfl) rfl ?_ ?_
   ·first|(go_simp;done)|(go_simp;rfl)
   refine hK.out _ _ (below_alloc HS7.out _) (fun hHeld=>?_)
   clear hK K
   refine nI ?_
   obtain⟨w7s,hw7s⟩:∃ x,x=w7.alloc (.cells #[.string s] 9):=⟨_,rfl⟩
   obtain⟨g2,hg2⟩:∃ x,x=w7.heap.size:=⟨_,rfl⟩
   have hq:Below w7.heap.size w7 w7s:=hw7s ▸ below_alloc (Below.refl _ _) _
   have HC2:=As.mk (show w7s.heap[g2]?=some (.cells #[.string s] 9 (0,0)) from hw7s ▸ hg2 ▸ (Go.MapKept.heap_alloc w7 _).1)
   have HZw7s:=As.mk (Nat.le_trans hle4 hq.size)
   have HVw7s:=As.mk (Nat.le_trans HV7.out hq.size)
   have HSw7s:=As.mk (bt_ HS7.out hq)
   have HBw7s:=As.mk (bt_ HB7.out hq)
   have HOw7s:=As.mk (Kd.R_below HO7.out hq)
   have HPw7s:=As.mk (Kd.R_below HP7.out hq)
   rw[←hw7s,←hg2]
   clear hq hw7s hg2 hHeld
   refine two_ (i:=3) (j:=6) (Ni:=some 63) (Nj:=some 66) #[true,true,true,true,true,true,false,false,false,false,false] #[true,true,true,false,true,true,true,false,false,false,false] rfl rfl rfl rfl (Z15) (Z31) (Z31) (fun K hK=>?_) (fun K hK=>?_)
   ·refine Kd.R_append_rows_step Kd.string (Rr:=Kd.string.K w7s) (w0:=w7s) w4.heap.size (by rfl) (.tmp 60) (.tmp 62) 31 9 (.string ⟨#[]⟩) 16 rfl Tryz.underlying31 info9 rfl (Z31) (Z1) v5 (bL E) [s] (some ⟨g2,0,none⟩) 1 1 (fun _=>True) (fun _=>False) (by rfl) (by rfl) HOw7s.out ((C_blk_str HC2.out).imp_ (Below.refl _ _) (fun _ _ h=>h)) (fun x cs hk=>hk) (fun _ hk=>hk.elim) (fun _ _=>trivial) (Below.refl _ _) HZw7s.out (Z79) ?_
    intro v9 w7sp ho hb hg hat
    have HZw7sp:=As.mk (Nat.le_trans HZw7s.out hb.size)
    have HVw7sp:=As.mk (Nat.le_trans HVw7s.out hb.size)
    have HSw7sp:=As.mk (HSw7s.out.trans (hb.mono hsz))
    have HBw7sp:=As.mk (HBw7s.out.trans (hb.mono (Nat.le_trans HWW.out hsz)))
    have HOw7sp:=As.mk ho
    have HPw7sp:=As.mk (Kd.R_over HPw7s.out HOw7s.out (Z31) hg)
    refine hK.out _ _ HSw7sp.out (fun hHeld=>?_)
    clear hK K hHeld ho hb hg hat
    refine nI ?_
    refine one_ (i:=6) (N:=some 66) (bs 11 127) rfl rfl (Z15) (Z31) (fun K hK=>?_)
    refine value_ (w1:=w7sp.alloc (.cells #[.int .i64 a,.int .i64 b] 91)) (v:=.slice (some ⟨w7sp.heap.size,0,none⟩) 1 1) (by rfl) rfl ?_ ?_
    ·first|(go_simp;done)|(go_simp;rfl)
    refine hK.out _ _ (below_alloc HSw7sp.out _) (fun hHeld=>?_)
    clear hK K
    refine nI ?_
    obtain⟨w7spm,hw7spm⟩:∃ x,x=w7sp.alloc (.cells #[.int .i64 a,.int .i64 b] 91):=⟨_,rfl⟩
    obtain⟨g6,hg6⟩:∃ x,x=w7sp.heap.size:=⟨_,rfl⟩
    have hq:Below w7sp.heap.size w7sp w7spm:=hw7spm ▸ below_alloc (Below.refl _ _) _
    have HC6:=As.mk (show w7spm.heap[g6]?=some (.cells #[.int .i64 a,.int .i64 b] 91 (0,0)) from hw7spm ▸ hg6 ▸ (Go.MapKept.heap_alloc w7sp _).1)
    have HZw7spm:=As.mk (Nat.le_trans HZw7sp.out hq.size)
    have HVw7spm:=As.mk (Nat.le_trans HVw7sp.out hq.size)
    have HSw7spm:=As.mk (bt_ HSw7sp.out hq)
    have HBw7spm:=As.mk (bt_ HBw7sp.out hq)
    have HOw7spm:=As.mk (Kd.R_below HOw7sp.out hq)
    have HPw7spm:=As.mk (Kd.R_below HPw7sp.out hq)
    rw[←hw7spm,←hg6]
    clear hq hw7spm hg6 hHeld
    exact norm_ (Z80) (hcont ⟨.slice (some ⟨g2,0,none⟩) 1 1,v9,.slice (some ⟨g6,0,none⟩) 1 1⟩ _ ⟨HSw7spm.out,HBw7spm.out,HVw7spm.out,HOw7spm.out,HPw7spm.out,g6,rfl,HC6.out⟩)
   ·refine value_ (w1:=w7s.alloc (.cells #[.int .i64 a,.int .i64 b] 91)) (v:=.slice (some ⟨w7s.heap.size,0,none⟩) 1 1) (by rfl) rfl ?_ ?_
    ·first|(go_simp;done)|(go_simp;rfl)
    refine hK.out _ _ (below_alloc HSw7s.out _) (fun hHeld=>?_)
    clear hK K
    refine nI ?_
    obtain⟨w7sm,hw7sm⟩:∃ x,x=w7s.alloc (.cells #[.int .i64 a,.int .i64 b] 91):=⟨_,rfl⟩
    obtain⟨g6,hg6⟩:∃ x,x=w7s.heap.size:=⟨_,rfl⟩
    have hq:Below w7s.heap.size w7s w7sm:=hw7sm ▸ below_alloc (Below.refl _ _) _
    have HC6:=As.mk (show w7sm.heap[g6]?=some (.cells #[.int .i64 a,.int .i64 b] 91 (0,0)) from hw7sm ▸ hg6 ▸ (Go.MapKept.heap_alloc w7s _).1)
    have HZw7sm:=As.mk (Nat.le_trans HZw7s.out hq.size)
    have HVw7sm:=As.mk (Nat.le_trans HVw7s.out hq.size)
    have HSw7sm:=As.mk (bt_ HSw7s.out hq)
    have HBw7sm:=As.mk (bt_ HBw7s.out hq)
    have HOw7sm:=As.mk (Kd.R_below HOw7s.out hq)
    have HPw7sm:=As.mk (Kd.R_below HPw7s.out hq)
    have HEw7sm:=As.mk ((hq.block _ (blk_lt HC2.out)).trans HC2.out)
    rw[←hw7sm,←hg6]
    clear hq hw7sm hg6 hHeld
    refine one_ (i:=3) (N:=some 63) (bs 11 127) rfl rfl (Z15) (Z31) (fun K hK=>?_)
    refine Kd.R_append_rows_step Kd.string (Rr:=Kd.string.K w7sm) (w0:=w7sm) w4.heap.size (by rfl) (.tmp 60) (.tmp 62) 31 9 (.string ⟨#[]⟩) 16 rfl Tryz.underlying31 info9 rfl (Z31) (Z1) v5 (bL E) [s] (some ⟨g2,0,none⟩) 1 1 (fun _=>True) (fun _=>False) (by rfl) (by rfl) HOw7sm.out ((C_blk_str HEw7sm.out).imp_ (Below.refl _ _) (fun _ _ h=>h)) (fun x cs hk=>hk) (fun _ hk=>hk.elim) (fun _ _=>trivial) (Below.refl _ _) HZw7sm.out (Z79) ?_
    intro v9 w7smp ho hb hg hat
    have HZw7smp:=As.mk (Nat.le_trans HZw7sm.out hb.size)
    have HVw7smp:=As.mk (Nat.le_trans HVw7sm.out hb.size)
    have HSw7smp:=As.mk (HSw7sm.out.trans (hb.mono hsz))
    have HBw7smp:=As.mk (HBw7sm.out.trans (hb.mono (Nat.le_trans HWW.out hsz)))
    have HOw7smp:=As.mk ho
    have HPw7smp:=As.mk (Kd.R_over HPw7sm.out HOw7sm.out (Z31) hg)
    have HDw7smp:=As.mk (blk_grown HC6.out hg (Kd.R_ne HOw7sm.out HC6.out (Z31)))
    refine hK.out _ _ HSw7smp.out (fun hHeld=>?_)
    clear hK K hHeld ho hb hg hat
    refine nI ?_
    exact norm_ (Z80) (hcont ⟨.slice (some ⟨g2,0,none⟩) 1 1,v9,.slice (some ⟨g6,0,none⟩) 1 1⟩ _ ⟨HSw7smp.out,HBw7smp.out,HVw7smp.out,HOw7smp.out,HPw7smp.out,g6,rfl,HDw7smp.out⟩)
  ·refine value_ (w1:=w7.alloc (.cells #[.int .i64 a,.int .i64 b] 91)) (v:=.slice (some ⟨w7.heap.size,0,none⟩) 1 1) (by rfl) rfl ?_ ?_
   ·first|(go_simp;done)|(go_simp;rfl)
   refine hK.out _ _ (below_alloc HS7.out _) (fun hHeld=>?_)
   clear hK K
   refine nI ?_
   obtain⟨w7m,hw7m⟩:∃ x,x=w7.alloc (.cells #[.int .i64 a,.int .i64 b] 91):=⟨_,rfl⟩
   obtain⟨g6,hg6⟩:∃ x,x=w7.heap.size:=⟨_,rfl⟩
   have hq:Below w7.heap.size w7 w7m:=hw7m ▸ below_alloc (Below.refl _ _) _
   have HC6:=As.mk (show w7m.heap[g6]?=some (.cells #[.int .i64 a,.int .i64 b] 91 (0,0)) from hw7m ▸ hg6 ▸ (Go.MapKept.heap_alloc w7 _).1)
   have HZw7m:=As.mk (Nat.le_trans hle4 hq.size)
   have HVw7m:=As.mk (Nat.le_trans HV7.out hq.size)
   have HSw7m:=As.mk (bt_ HS7.out hq)
   have HBw7m:=As.mk (bt_ HB7.out hq)
   have HOw7m:=As.mk (Kd.R_below HO7.out hq)
   have HPw7m:=As.mk (Kd.R_below HP7.out hq)
   rw[←hw7m,←hg6]
   clear hq hw7m hg6 hHeld
   refine one_ (i:=2) (N:=some 62) (bs 11 119) rfl rfl (Z15) (Z31) (fun K hK=>?_)
   refine value_ (w1:=w7m.alloc (.cells #[.string s] 9)) (v:=.slice (some ⟨w7m.heap.size,0,none⟩) 1 1) (by rfl) rfl ?_ ?_
   ·first|(go_simp;done)|(go_simp;rfl)
   refine hK.out _ _ (below_alloc HSw7m.out _) (fun hHeld=>?_)
   clear hK K
   refine nI ?_
   obtain⟨w7ms,hw7ms⟩:∃ x,x=w7m.alloc (.cells #[.string s] 9):=⟨_,rfl⟩
   obtain⟨g2,hg2⟩:∃ x,x=w7m.heap.size:=⟨_,rfl⟩
   have hq:Below w7m.heap.size w7m w7ms:=hw7ms ▸ below_alloc (Below.refl _ _) _
   have HC2:=As.mk (show w7ms.heap[g2]?=some (.cells #[.string s] 9 (0,0)) from hw7ms ▸ hg2 ▸ (Go.MapKept.heap_alloc w7m _).1)
   have HZw7ms:=As.mk (Nat.le_trans HZw7m.out hq.size)
   have HVw7ms:=As.mk (Nat.le_trans HVw7m.out hq.size)
   have HSw7ms:=As.mk (bt_ HSw7m.out hq)
   have HBw7ms:=As.mk (bt_ HBw7m.out hq)
   have HOw7ms:=As.mk (Kd.R_below HOw7m.out hq)
   have HPw7ms:=As.mk (Kd.R_below HPw7m.out hq)
   have HDw7ms:=As.mk ((hq.block _ (blk_lt HC6.out)).trans HC6.out)
   rw[←hw7ms,←hg2]
   clear hq hw7ms hg2 hHeld
   refine one_ (i:=3) (N:=some 63) (bs 11 127) rfl rfl (Z15) (Z31) (fun K hK=>?_)
   refine Kd.R_append_rows_step Kd.string (Rr:=Kd.string.K w7ms) (w0:=w7ms) w4.heap.size (by rfl) (.tmp 60) (.tmp 62) 31 9 (.string ⟨#[]⟩) 16 rfl Tryz.underlying31 info9 rfl (Z31) (Z1) v5 (bL E) [s] (some ⟨g2,0,none⟩) 1 1 (fun _=>True) (fun _=>False) (by rfl) (by rfl) HOw7ms.out ((C_blk_str HC2.out).imp_ (Below.refl _ _) (fun _ _ h=>h)) (fun x cs hk=>hk) (fun _ hk=>hk.elim) (fun _ _=>trivial) (Below.refl _ _) HZw7ms.out (Z79) ?_
   intro v9 w7msp ho hb hg hat
   have HZw7msp:=As.mk (Nat.le_trans HZw7ms.out hb.size)
   have HVw7msp:=As.mk (Nat.le_trans HVw7ms.out hb.size)
   have HSw7msp:=As.mk (HSw7ms.out.trans (hb.mono hsz))
   have HBw7msp:=As.mk (HBw7ms.out.trans (hb.mono (Nat.le_trans HWW.out hsz)))
   have HOw7msp:=As.mk ho
   have HPw7msp:=As.mk (Kd.R_over HPw7ms.out HOw7ms.out (Z31) hg)
   have HDw7msp:=As.mk (blk_grown HDw7ms.out hg (Kd.R_ne HOw7ms.out HDw7ms.out (Z31)))
   refine hK.out _ _ HSw7msp.out (fun hHeld=>?_)
   clear hK K hHeld ho hb hg hat
   refine nI ?_
   exact norm_ (Z80) (hcont ⟨.slice (some ⟨g2,0,none⟩) 1 1,v9,.slice (some ⟨g6,0,none⟩) 1 1⟩ _ ⟨HSw7msp.out,HBw7msp.out,HVw7msp.out,HOw7msp.out,HPw7msp.out,g6,rfl,HDw7msp.out⟩)
def more (E:List Ent) (a b:Int):List Ent:=if addC E a b=0 then E++[newE E a b] else E
theorem radd_any {w:World} {base:Nat} {A B:Option Addr} {c d:Nat} {E:List Ent} (h:ROwn w base A B c d E) (hE:Tk.Good E) (hl:base≤w.heap.size) (a b:Int) :
  Calls Tryz.prog 125 #[rV A B c d E,.agg #[.int .i64 a,.int .i64 b]] w fun e w'=>∃ A2 B2 c2 d2,e=.returned (.tuple #[rV A2 B2 c2 d2 (more E a b),.int .i64 (addC E a b)])/\ROwn w' base A2 B2 c2 d2 (more E a b)/\Below w.heap.size w w':=by
 by_cases hc:addC E a b=0
 ·have hh:hasE E a=true/\hasE E b=true:=by
   by_cases hh:hasE E a=true/\hasE E b=true
   ·exact hh
   ·unfold addC at hc;rw[if_neg hh]at hc;cases hc
  refine(radd_yes h.at_ hE a b hh.1 hh.2 hc).mono ?_
  rintro e w' ⟨A2,B2,c2,d2,rfl,ho,hb⟩
  unfold more
  rw[if_pos hc,hc]
  exact⟨A2,B2,c2,d2,rfl,ho.lower hl,hb⟩
 ·unfold more
  rw[if_neg hc]
  by_cases hh:hasE E a=true/\hasE E b=true
  ·refine(radd_no h.at_ hE a b hh.1 hh.2 hc).mono ?_
   rintro e w' ⟨rfl,hb⟩
   exact⟨A,B,c,d,rfl,h.below hb,hb⟩
  ·have h4:addC E a b=4:=by unfold addC;rw[if_neg hh]
   refine(radd_has h.at_ a b hh).mono ?_
   rintro e w' ⟨rfl,hb⟩
   rw[h4]
   exact⟨A,B,c,d,rfl,h.below hb,hb⟩
end Go.Proofs.YtkffhgiiejbnaaaGreat.Rt
