import Derived.Test.YtkffhgiiejbnaaaGreatZSkI
import Derived.Test.YtkffhgiiejbnaaaGreatZDecN
set_option maxRecDepth 100000
set_option maxHeartbeats 1000000
set_option linter.unusedVariables false
set_option linter.unusedSimpArgs false
namespace Go.Proofs.YtkffhgiiejbnaaaGreat.Sk
open Go.Shelf Go.RowKit YtkffhgiiejbnaaaGreatW.PrintWords YtkffhgiiejbnaaaGreatW.PrintLast YtkffhgiiejbnaaaGreatW.PrintMore Rf Aid Mp Hp Tk Vc En
theorem mt_cells {w:World} {base n c:Nat} {ok:Nat->Prop} {A:Option Addr} {l:List S65} (h:Kd.R k65 65 w base ok (.slice A n c) l) {i:Nat} {x:S65} (hx:l[i]?=some x) :
  ∃ g,A=some ⟨g,0,none⟩/\w.cell? ⟨g,i * 4,none⟩=some (.int .i64 x.f0)/\w.cell? ⟨g,i * 4+1,none⟩=some (.int .i64 x.f1)/\w.cell? ⟨g,i * 4+2,none⟩=some (.int .i64 x.f2)/\w.cell? ⟨g,i * 4+3,none⟩=some (.bool x.f3):=by
 obtain⟨hl,_⟩:=List.getElem?_eq_some_iff.1 hx
 obtain⟨g,c',e',_⟩:=Kd.R_form h (Z1)
 injection e' with e1 e2 e3
 subst e1
 obtain⟨h1,h2,h3⟩:=(Kd.R_reads' h).2.2
 obtain⟨ad,e,hc⟩:=h3 (Z1)
 injection e with e
 subst e
 obtain⟨cs,q1,q2,q3⟩:=hc i x hx
 have q2':=k65_open q2
 subst q2'
 have r:∀ (j:Nat) (u:Value),([Value.int .i64 x.f0,.int .i64 x.f1,.int .i64 x.f2,.bool x.f3]:List Value)[j]?=some u->w.cell? ⟨g,i * 4+j,none⟩=some u:=fun j u hu=>by
  have r0:=q3 j u hu
  rw[show (⟨g,0,none⟩:Addr).add (i * k65.sz+j)=⟨g,i * 4+j,none⟩ by
   rw[show k65.sz=4 from rfl]
   unfold Addr.add
   split <;> simp_all]at r0
  exact r0
 exact⟨g,rfl,r 0 _ rfl,r 1 _ rfl,r 2 _ rfl,r 3 _ rfl⟩
theorem it_97:itemsOf Dc.s0 97=[97]:=Z16
theorem has_97:hasId Dc.s0 97=true:=Z16
theorem pat_aa:Mk.parseP [] ⟨#[97,97]⟩=[97,97]:=Z16
theorem told_aa:(feedS Dc.s0 [97,97] ⟨[],0,[],[]⟩ [97,97,97]).told=[⟨0,0,1,true⟩,⟨1,1,2,true⟩]:=by
 unfold feedS
 simp only[List.foldl_cons,List.foldl_nil,stp,it_97]
 rfl
theorem awake_any (w:World):Calls Tryz.prog 25 #[] w fun e w'=>e=.returned (.bool true)/\Below w.heap.size w w':=by
 have hn:=new_ok 0 0 0 0 (Dc.s0_at w) Dc.s0_ok
 rw[show spV none none none none 0 0 0 0 Dc.s0=.agg #[.bool false,.slice none 0 0,.slice none 0 0,.slice none 0 0,.slice none 0 0,.slice none 0 0] from rfl]at hn
 have HN:=As.mk hn
 clear hn
 have hz:∀ w,(zeroValue 95).run Tryz.prog w=.ok (.agg #[.bool false,.slice none 0 0,.slice none 0 0,.slice none 0 0,.slice none 0 0,.slice none 0 0]) w:=fun w=>Z16
 go_enter Tryz.func25,Tryz.ntmps25
 go_wp2_with (first
  | (go_at_call 50;refine HN.out.mono ?_;rintro e w1 ⟨v,rfl,hv,hle,hb⟩;have HV1:=As.mk hv;have HL:=As.mk hle;have HB1:=As.mk hb;clear hv hle hb HN)
  | (go_at_call 26;go_loud (have ht:=text_any HV1.out ⟨#[97,97]⟩ (Z32) (Z32);rw[pat_aa]at ht;refine ht.mono ?_;clear ht;rintro e w2 ⟨d,Ap,cp,g,rfl,hs,hd1,hd2,hb⟩;have HS2:=As.mk hs;have HV2:=As.mk (HV1.out.below hb);have HVD:=As.mk (Nat.lt_of_lt_of_le HV1.out.lt hd1);have HB2:=As.mk (bt_ HB1.out hb);clear hs hd1 hd2 hb HV1 HB1)))
 have hba:=below_alloc (Below.refl w2.heap.size w2) (.cells #[.int .i64 97,.int .i64 97,.int .i64 97] 3)
 have hr:Kd.R (Kd.int .i64) 3 (w2.alloc (.cells #[.int .i64 97,.int .i64 97,.int .i64 97] 3)) w2.heap.size (fun _=>True) (.slice (some ⟨w2.heap.size,0,none⟩) 3 3) [97,97,97]:=Kd.R_of_own (own_lit w2 w2.heap.size 3 .i64 [97,97,97] (Nat.le_refl _) (by simp)) (fun _ _=>trivial)
 have hf:=feed_sk (st:=⟨[],0,[],[]⟩) (N:=0) (HS2.out.below hba) (HV2.out.below hba) HVD.out (by simp) (by simp) ⟨by simp,by simp,by simp,by simp,fun x hx=>Z125⟩ (Z1) rfl (A:=some ⟨w2.heap.size,0,none⟩) (c:=3) (ids:=[97,97,97]) (fun W f=>(Kd.R_reads' (f.rw (Rw.of hr))).2.2) (by simp)
 rw[show ([97,97,97]:List Int).findIdx? (fun n=>!hasId Dc.s0 n)=none from List.findIdx?_eq_none_iff.2 (fun x hx=>by
  have:x=97:=by simpa using hx
  rw[this,has_97];rfl)]at hf
 simp only[told_aa]at hf
 have HF:=As.mk hf
 have HBA:=As.mk (below_alloc HB2.out (.cells #[.int .i64 97,.int .i64 97,.int .i64 97] 3))
 have HVZ:=As.mk (show w.heap.size≤v from HL.out)
 clear hf hr hba
 go_wp2_with (go_at_call 27;go_loud (refine HF.out.mono ?_;rintro e w3 ⟨u,lv,rfl,ho,hs,hfd,_⟩;obtain⟨A3,c3,rfl⟩:=Kd.R_slice ho;obtain⟨g3,e3,x0,x1,x2,x3⟩:=mt_cells ho (i:=0) rfl;subst e3;obtain⟨g4,e4,y0,y1,y2,y3⟩:=mt_cells ho (i:=1) rfl;injection e4 with e4;injection e4 with e4;subst e4;have HB3:=As.mk (HBA.out.trans (hfd.high (by have h1:=blk_lt HS2.out.blk;simp;omega) HVZ.out HVD.out));clear ho hs hfd))
 go_ret
 exact⟨rfl,HB3.out⟩
end Go.Proofs.YtkffhgiiejbnaaaGreat.Sk
