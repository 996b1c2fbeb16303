import Derived.Deep.RegionHeld3
import Derived.Test.YtkffhgiiejbnaaaGreatQSetB
import Derived.Test.YtkffhgiiejbnaaaGreatQ01
set_option maxRecDepth 100000
set_option maxHeartbeats 2000000
set_option linter.unusedVariables false
set_option linter.unusedSimpArgs false
namespace Go.Proofs.YtkffhgiiejbnaaaGreat.Mk
open Go.RowKit YtkffhgiiejbnaaaGreatW.PrintWords YtkffhgiiejbnaaaGreatW.PrintLast YtkffhgiiejbnaaaGreatW.PrintMore Rf Aid Mp
theorem idx_spec {S:List Sp} {s:ByteArray} {j:Nat} (h:idx S s=some j):(rd_T93 S j).f1=s:=by
 obtain⟨hl,hd,_⟩:=List.findIdx?_eq_some_iff_getElem.1 h
 unfold rd_T93
 rw[Int.toNat_natCast,List.getD_eq_getElem?_getD,List.getElem?_eq_getElem hl]
 simpa using hd
theorem atN_spec {S:List Sp} {s:ByteArray} {j:Nat}:∀ {n:Nat},atN S s n=some j->j<S.length/\∃ m,0<m/\m≤n/\(rd_T93 S j).f1=s.extract 0 m
 | 0,h=>by simp[atN]at h
 | n+1,h=>by
  rw[atN_succ]at h
  split at h
  ·exact⟨idx_lt h,n+1,Z1,Z1,idx_spec h⟩
  ·obtain⟨h1,m,h2,h3,h4⟩:=atN_spec h
   exact⟨h1,m,h2,Z1,h4⟩
theorem atP_spec {S:List Sp} {s:ByteArray} {j:Nat} (h:atP S s=some j):j<S.length/\0<(rd_T93 S j).f1.size/\(rd_T93 S j).f1.size≤s.size:=by
 unfold atP at h
 split at h
 ·split at h
  ·obtain⟨h1,m,h2,h3,h4⟩:=atN_spec h
   have:(rd_T93 S j).f1.size=m:=by rw[h4,ByteArray.size_extract];omega
   exact⟨h1,Z1,Z1⟩
  ·cases h
 ·cases h
theorem R_away {α:Type} {d:Kd α} {e:Nat} {w:World} {base:Nat} {ok:Nat->Prop} {v:Value} {xs:List α} (h:d.R e w base ok v xs) {b:Nat} (hb:w.heap.size≤b):some b≠v.ownBlock:=by
 obtain⟨_,ho⟩:=Kd.R_own h
 intro e1
 have:=own_lt ho b e1.symm
 omega
theorem parse_any {p:Nat} {S:List Sp} {w:World} (h:SetAt w p S) (s:ByteArray) (hs:s.size≤17592186044414) :
  Calls Tryz.prog 68 #[.pointer (some ⟨p,0,none⟩),.string s] w fun e w'=>∃ v,e=.returned v/\Kd.R (Kd.int .i64) 3 w' w.heap.size (fun _=>True) v (parseP S s)/\Below w.heap.size w w':=by
 unfold parseP
 obtain⟨R,hR⟩:∃ R,parseF S s s.size 0=R:=⟨_,rfl⟩
 have hRl:R.length≤s.size:=by rw[←hR];exact parseF_length S s s.size 0
 rw[hR]
 have HR:=As.mk hR
 have HS:=As.mk h
 have HB:=As.mk (Below.refl w.heap.size w)
 have HRl:=As.mk hRl
 clear hR h hRl
 go_enter Tryz.func68,Tryz.ntmps68
 go_wp2
 go_loopg [5,6] s.size (fun k v5 v6 w'=>∃ (xs:List Int) (i:Nat),v6=.int .i64 i/\i≤s.size/\As (xs++parseF S s k i=R)/\As (s.size-i≤k)/\As (Kd.R (Kd.int .i64) 3 w' w.heap.size (fun _=>True) v5 xs)/\As (Below w.heap.size w w'))
 case atStart=>exact⟨[],0,rfl,Nat.zero_le _,⟨by simpa using HR.out⟩,⟨Z1⟩,⟨Kd.R_nil _ _ _ _ _⟩,HB⟩
 case round =>
  clear HR HB
  obtain⟨xs,i,rfl,hi,HA,HK,HO,HB⟩:=hrel
  by_cases hlt:i<s.size
  ·have hk:∃ k1,gk=k1+1:=⟨gk-1,Z65⟩
   obtain⟨k1,rfl⟩:=hk
   have hltI:(i:Int)<s.size:=Z1
   have hsl:∀ w',(Instr.slice 9 (.string s) (some (.int .i64 (i:Int))) none none).run Tryz.prog w'=.ok (.string (s.extract i s.size)) w':=fun w'=>slice_from Tryz.underlying9 s _ i rfl (Z1) w'
   have hlx:xs.length+1≤R.length:=by
    have:=HA.out
    rw[←this,List.length_append]
    have:1≤(parseF S s (k1+1) i).length:=by
     cases ha:atP S (s.extract i s.size) with
     | none=>rw[parseF_byte hlt ha];simp
     | some j=>rw[parseF_mark hlt ha];simp
    omega
   have HL:=As.mk hlx
   have hsz:(s.extract i s.size).size≤9223372036854775807:=Z91
   have HZ:=As.mk hsz
   clear hlx hsz
   cases ha:atP S (s.extract i s.size) with
   | none =>
    have hA:=HA.out
    rw[parseF_byte hlt ha]at hA
    have HA':=As.mk hA
    have Ha:=As.mk ha
    clear hA HA ha
    have hb:=bt_at s i
    have hbr:=bt_range s i
    simp only[Int.toNat_natCast]at hb
    go_wp2_with (first|(go_at_call 96;refine(at_any (HS.out.below HB.out) (s.extract i s.size) HZ.out).mono ?_;rintro e w1 ⟨rfl,⟨n1,rfl⟩⟩;rw[Ha.out];unfold markT markV)|((with_reducible refine gate_builtin (b:=.append) (xs:=#[.tmp 25,.tmp 30]) rfl ?_);at_builtin;refine Kd.R_append (Kd.int .i64) (w0:=w) w.heap.size rfl (.tmp 25) (.tmp 30) 41 3 (.int .i64 0) 8 rfl Tryz.underlying41 info3 rfl (Z31) (Z1) _ xs (bt s i) [.int .i64 (bt s i)] (fun _=>True) (fun _=>False) rfl ?aX ?aP (fun _ hk=>hk.elim) ?aF ?aO ?aB ?aS ?aL ?_;(case aX=>exact Z66);(case aP=>exact rfl);(case aF=>exact Z32);(case aO=>exact(Z92));(case aB=>exact(Z20));(case aS=>exact Z177);(case aL=>(have:=HL.out;have:=HRl.out;omega));intro v1 w1 ho hb hg hat;have HO_:=As.mk ho;have HB_:=As.mk hb;clear HO HB ho hb hg hat;have HO:=HO_;have HB:=HB_;clear HO_ HB_))
    go_roundg k1
    case measure=>omega
    case rel=>exact⟨xs++[bt s i],i+1,Z67,Z1,⟨by rw[List.append_assoc];exact HA'.out⟩,⟨Z65⟩,HO,HB⟩
   | some j =>
    obtain⟨q1,q2,q3⟩:=atP_spec ha
    rw[ByteArray.size_extract]at q3
    have hA:=HA.out
    rw[parseF_mark hlt ha]at hA
    have HA':=As.mk hA
    have Ha:=As.mk ha
    have hj1:(-1-(j:Int))<0:=Z1
    have hj2:-(S.length:Int)≤-1-(j:Int):=Z1
    have hP:hasP S (-1-(j:Int))=(rd_T93 S j,true):=by
     unfold hasP
     rw[if_pos ⟨hj1,hj2⟩,show -1-(-1-(j:Int))=(j:Int) from Z1]
    have HP:=As.mk hP
    clear hA HA ha hP q1 hj2
    have q3':(rd_T93 S j).f1.size≤s.size-i:=Z1
    clear q3
    generalize hx:rd_T93 S j=x at *
    clear hx
    go_wp2_with (first|(go_at_call 96;refine(at_any (HS.out.below HB.out) (s.extract i s.size) HZ.out).mono ?_;rintro e w1 ⟨rfl,⟨n1,rfl⟩⟩;rw[Ha.out];unfold markT markV)|(go_at_call 97;refine(has_any (HS.out.below (pw_below_drewN HB.out _)) _).mono ?_;rintro e w2 ⟨rfl,hb1⟩;rw[HP.out];unfold spV;(have HB_:=As.mk (below_then (pw_below_drewN HB.out _) (by have:=HB.out.size;simpa using this) hb1));(have HO_:=As.mk (Kd.R_below (Kd.R_drewN HO.out _) hb1));clear HB HO;(have HB:=HB_);(have HO:=HO_);clear HB_ HO_;clear hb1)|((with_reducible refine gate_builtin (b:=.append) (xs:=#[.tmp 40,.tmp 42]) rfl ?_);at_builtin;refine Kd.R_append (Kd.int .i64) (w0:=w) w.heap.size rfl (.tmp 40) (.tmp 42) 41 3 (.int .i64 0) 8 rfl Tryz.underlying41 info3 rfl (Z31) (Z1) _ xs (-1-(j:Int)) [.int .i64 (-1-(j:Int))] (fun _=>True) (fun _=>False) rfl ?aX ?aP (fun _ hk=>hk.elim) ?aF ?aO ?aB ?aS ?aL ?_;(case aX=>exact Z66);(case aP=>exact rfl);(case aF=>exact Z32);(case aO=>exact(Z92));(case aB=>exact(Z20));(case aS=>exact Z177);(case aL=>(have:=HL.out;have:=HRl.out;omega));intro v1 w1 ho hb hg hat;(have hx:=cell_grown hg (a:=⟨w2.heap.size,1,none⟩) (v:=.string x.f1) (by simp[go_sem]) (R_away HO.out (Nat.le_refl _)));have HO_:=As.mk ho;have HB_:=As.mk hb;clear HO HB ho hb hg hat;have HO:=HO_;have HB:=HB_;clear HO_ HB_))
    go_roundg k1
    case measure=>omega
    case rel=>exact⟨xs++[-1-(j:Int)],i+x.f1.size,Z67,Z1,⟨by rw[List.append_assoc];exact HA'.out⟩,⟨Z65⟩,HO,HB⟩
  ·have hA:=HA.out
   rw[parseF_nil hlt,List.append_nil]at hA
   subst hA
   have hge:¬ (i:Int)<s.size:=Z1
   go_wp2
   go_ret
   exact⟨_,rfl,HO.out,HB.out⟩
end Go.Proofs.YtkffhgiiejbnaaaGreat.Mk
namespace Go.Proofs.YtkffhgiiejbnaaaGreat.Mk
open Go.RowKit YtkffhgiiejbnaaaGreatW.PrintWords YtkffhgiiejbnaaaGreatW.PrintLast YtkffhgiiejbnaaaGreatW.PrintMore Rf Aid Mp
attribute [local go_sem] Aid.max_two Aid.min_two min2_mn max2_mx
def goodB (x:Sp):Bool:=decide (0≤x.f0/\x.f0≤1073741824/\1≤x.f1.size/\x.f1.size≤64)
theorem right_any (x:Sp) (w:World):Calls Tryz.prog 172 #[spV x] w fun e w'=>e=.returned (.bool (goodB x))/\Below w.heap.size w w':=by
 refine mark_right.calls x.f0 x.f1 (goodB x) w ?_
 unfold mark_right.f goodB
 by_cases h0:x.f0 ≥ 0
 ·rw[if_pos h0]
  by_cases h1:x.f0≤1073741824
  ·rw[if_pos h1]
   by_cases h2:x.f1.size=0
   ·rw[if_pos (toList_nil h2)];congr 1;symm;simp;omega
   ·rw[if_neg (fun e=>by have:=toList_some (s:=x.f1) (Z1);rw[e]at this;simp at this)]
    congr 1;rw[decide_eq_decide];omega
  ·rw[if_neg h1];congr 1;symm;simp;omega
 ·rw[if_neg h0];congr 1;symm;simp;omega
structure SetRaw (w:World) (base p:Nat) (v:Value) (bi bt:Nat) (R I T:List Sp) (F:Nat->Bool) (M:Nat):Prop where
 lp:base≤p
 li:base≤bi
 lt:base≤bt
 nit:bi≠bt
 blk:∃ cs,w.heap[p]?=some (.cells cs 192 (0,0))
 rows:Kd.R kSp 93 w base (fun _=>True) v R
 c0:w.cell? ⟨p,0,none⟩=some v
 c1:w.cell? ⟨p,1,none⟩=some (.map (some bi))
 c2:w.cell? ⟨p,2,none⟩=some (.map (some bt))
 ids:MapIs encInt w bi (idl I)
 texts:MapIs encStr w bt (txl T)
 first:∀ i,i<256->w.cell? ⟨p,3+i,none⟩=some (.bool (F i))
 most:w.cell? ⟨p,259,none⟩=some (.int .i64 (M:Int))
theorem SetRaw.below {w w':World} {base p:Nat} {v:Value} {bi bt:Nat} {R I T:List Sp} {F:Nat->Bool} {M:Nat} (h:SetRaw w base p v bi bt R I T F M) (hb:Below w.heap.size w w'):SetRaw w' base p v bi bt R I T F M:=by
 obtain⟨cs,hcs⟩:=h.blk
 exact⟨h.lp,h.li,h.lt,h.nit,⟨cs,(hb.block _ (Array.getElem?_eq_some_iff.1 hcs).1).trans hcs⟩,Kd.R_below h.rows hb,pw_cell_below hb h.c0,pw_cell_below hb h.c1,pw_cell_below hb h.c2,
  h.ids.of_block (hb.block _ h.ids.lt),h.texts.of_block (hb.block _ h.texts.lt),fun i hi=>pw_cell_below hb (h.first i hi),pw_cell_below hb h.most⟩
theorem SetRaw.npi {w:World} {base p:Nat} {v:Value} {bi bt:Nat} {R I T:List Sp} {F:Nat->Bool} {M:Nat} (h:SetRaw w base p v bi bt R I T F M):p≠bi:=fun e=>by
 obtain⟨cs,h1⟩:=h.blk;obtain⟨es,cl,h2,_⟩:=h.ids;rw[e,h2]at h1;cases h1
theorem SetRaw.npt {w:World} {base p:Nat} {v:Value} {bi bt:Nat} {R I T:List Sp} {F:Nat->Bool} {M:Nat} (h:SetRaw w base p v bi bt R I T F M):p≠bt:=fun e=>by
 obtain⟨cs,h1⟩:=h.blk;obtain⟨es,cl,h2,_⟩:=h.texts;rw[e,h2]at h1;cases h1
theorem R_but {α:Type} {d:Kd α} {e:Nat} {w w':World} {base b:Nat} {ok:Nat->Prop} {v:Value} {xs:List α} (h:d.R e w base ok v xs) (hb:But b w w') {es:Array MapEntry} {cl:Nat} (hm:w.heap[b]?=some (.map es cl)):d.R e w' base ok v xs :=
 Kd.R_mono (Kd.R_move (Kd.R_bound h) (fun k hk=>hb.block k (by
  obtain⟨_,_,_,q,hq,cells,hc⟩:=hk
  rintro rfl
  rw[hm]at hc
  cases hc))) (fun k hk=>hk.1)
theorem SetRaw.putI {w w':World} {base p:Nat} {v:Value} {bi bt:Nat} {R I T I':List Sp} {F:Nat->Bool} {M:Nat} (h:SetRaw w base p v bi bt R I T F M) (hb:But bi w w') (hm:MapIs encInt w' bi (idl I')):SetRaw w' base p v bi bt R I' T F M:=by
 obtain⟨cs,hcs⟩:=h.blk
 obtain⟨es,cl,he,_⟩:=h.ids
 exact⟨h.lp,h.li,h.lt,h.nit,⟨cs,(hb.block _ h.npi).trans hcs⟩,R_but h.rows hb he,(hb.cell (a:=⟨p,0,none⟩) h.npi).trans h.c0,(hb.cell (a:=⟨p,1,none⟩) h.npi).trans h.c1,(hb.cell (a:=⟨p,2,none⟩) h.npi).trans h.c2,hm,
  h.texts.of_block (hb.block _ (Ne.symm h.nit)),fun i hi=>(hb.cell (a:=⟨p,3+i,none⟩) h.npi).trans (h.first i hi),(hb.cell (a:=⟨p,259,none⟩) h.npi).trans h.most⟩
theorem SetRaw.putT {w w':World} {base p:Nat} {v:Value} {bi bt:Nat} {R I T T':List Sp} {F:Nat->Bool} {M:Nat} (h:SetRaw w base p v bi bt R I T F M) (hb:But bt w w') (hm:MapIs encStr w' bt (txl T')):SetRaw w' base p v bi bt R I T' F M:=by
 obtain⟨cs,hcs⟩:=h.blk
 obtain⟨es,cl,he,_⟩:=h.texts
 exact⟨h.lp,h.li,h.lt,h.nit,⟨cs,(hb.block _ h.npt).trans hcs⟩,R_but h.rows hb he,(hb.cell (a:=⟨p,0,none⟩) h.npt).trans h.c0,(hb.cell (a:=⟨p,1,none⟩) h.npt).trans h.c1,(hb.cell (a:=⟨p,2,none⟩) h.npt).trans h.c2,
  h.ids.of_block (hb.block _ h.nit),hm,fun i hi=>(hb.cell (a:=⟨p,3+i,none⟩) h.npt).trans (h.first i hi),(hb.cell (a:=⟨p,259,none⟩) h.npt).trans h.most⟩
theorem set_ne (w:World) (p i j:Nat) (u:Value) (h:i≠j):(w.setCell ⟨p,j,none⟩ u).cell? ⟨p,i,none⟩=w.cell? ⟨p,i,none⟩:=by
 simp only[World.cell?,World.setCell,Array.getElem?_modify,if_true]
 cases w.heap[p]? with
 | none=>rfl
 | some o=>cases o <;> simp[Array.getElem?_setIfInBounds,Ne.symm h]
theorem set_eq {w:World} {p j:Nat} {u v:Value} (h:w.cell? ⟨p,j,none⟩=some v):(w.setCell ⟨p,j,none⟩ u).cell? ⟨p,j,none⟩=some u:=World.cell?_setCell_same' w _ _ (by rw[h];rfl)
theorem blk_set {w:World} {p t:Nat} {cs:Array Value} (h:w.heap[p]?=some (.cells cs t (0,0))) (j:Nat) (u:Value):∃ cs',(w.setCell ⟨p,j,none⟩ u).heap[p]?=some (.cells cs' t (0,0)):=by
 simp[World.setCell,Array.getElem?_modify,h]
theorem SetRaw.store {w:World} {base p:Nat} {v v':Value} {bi bt:Nat} {R R' I T:List Sp} {F F':Nat->Bool} {M M':Nat} (h:SetRaw w base p v bi bt R I T F M) (j:Nat) (u:Value) (hj1:j≠1) (hj2:j≠2)
  (hr:Kd.R kSp 93 w base (fun _=>True) v' R') (h0:if j=0 then v'=u else v'=v)
  (hf:∀ i,i<256->if j=3+i then u=.bool (F' i) else F' i=F i) (hm:if j=259 then u=.int .i64 (M':Int) else M'=M):SetRaw (w.setCell ⟨p,j,none⟩ u) base p v' bi bt R' I T F' M':=by
 obtain⟨cs,hcs⟩:=h.blk
 refine⟨h.lp,h.li,h.lt,h.nit,blk_set hcs j u,Kd.R_set hr hcs (Z31) j u,?_,(set_ne w p 1 j u (Ne.symm hj1)).trans h.c1,(set_ne w p 2 j u (Ne.symm hj2)).trans h.c2,h.ids.of_block (Below.heap_setCell _ _ _ _ (Ne.symm h.npi)),h.texts.of_block (Below.heap_setCell _ _ _ _ (Ne.symm h.npt)),?_,?_⟩
 ·by_cases e:j=0
  ·subst e;rw[if_pos rfl]at h0;rw[h0];exact set_eq h.c0
  ·rw[if_neg e]at h0;rw[h0];exact(set_ne w p 0 j u (Ne.symm e)).trans h.c0
 ·intro i hi
  have:=hf i hi
  by_cases e:j=3+i
  ·subst e;rw[if_pos rfl]at this;rw[this];exact set_eq (h.first i hi)
  ·rw[if_neg e]at this;rw[this];exact(set_ne w p (3+i) j u (Ne.symm e)).trans (h.first i hi)
 ·by_cases e:j=259
  ·subst e;rw[if_pos rfl]at hm;rw[hm];exact set_eq h.most
  ·rw[if_neg e]at hm;rw[hm];exact(set_ne w p 259 j u (Ne.symm e)).trans h.most
theorem SetRaw.grown {w w':World} {base p:Nat} {v:Value} {bi bt:Nat} {R I T:List Sp} {F:Nat->Bool} {M:Nat} (h:SetRaw w base p v bi bt R I T F M) (hg:w.grownBy w' v.ownBlock) :
  (∀ i x,w.cell? ⟨p,i,none⟩=some x->w'.cell? ⟨p,i,none⟩=some x)/\(∃ cs,w'.heap[p]?=some (.cells cs 192 (0,0)))/\MapIs encInt w' bi (idl I)/\MapIs encStr w' bt (txl T):=by
 obtain⟨cs,hcs⟩:=h.blk
 have hp:some p≠v.ownBlock:=Kd.R_ne h.rows hcs (Z31)
 have hlt:p<w.heap.size:=(Array.getElem?_eq_some_iff.1 hcs).1
 have hmap:∀ b es cl,w.heap[b]?=some (Obj.map es cl)->some b≠v.ownBlock:=fun b es cl hm e=>by
  obtain⟨_,ho⟩:=Kd.R_own h.rows
  obtain⟨cells,hc⟩:=own_typed ho b e.symm
  rw[hm]at hc;cases hc
 obtain⟨es1,cl1,he1,_⟩:=id h.ids
 obtain⟨es2,cl2,he2,_⟩:=id h.texts
 exact⟨fun i x hx=>cell_grown hg hx hp,⟨cs,(hg.block p hlt hp).trans hcs⟩,h.ids.of_block (hg.block _ h.ids.lt (hmap _ _ _ he1)),h.texts.of_block (hg.block _ h.texts.lt (hmap _ _ _ he2))⟩
theorem SetRaw.close {w w':World} {base p:Nat} {v v':Value} {bi bt:Nat} {R R' I T:List Sp} {F:Nat->Bool} {M:Nat} (h:SetRaw w base p v bi bt R I T F M) (hg:w.grownBy w' v.ownBlock) (ho:Kd.R kSp 93 w' base (fun _=>True) v' R') :
  SetRaw (w'.setCell ⟨p,0,none⟩ v') base p v' bi bt R' I T F M:=by
 obtain⟨g1,⟨cs,hcs⟩,g3,g4⟩:=h.grown hg
 exact⟨h.lp,h.li,h.lt,h.nit,blk_set hcs 0 v',Kd.R_set ho hcs (Z31) 0 v',set_eq (g1 0 _ h.c0),(set_ne w' p 1 0 v' (Z1)).trans (g1 1 _ h.c1),(set_ne w' p 2 0 v' (Z1)).trans (g1 2 _ h.c2),
  g3.of_block (Below.heap_setCell _ _ _ _ (Ne.symm h.npi)),g4.of_block (Below.heap_setCell _ _ _ _ (Ne.symm h.npt)),fun i hi=>(set_ne w' p (3+i) 0 v' (Z1)).trans (g1 (3+i) _ (h.first i hi)),(set_ne w' p 259 0 v' (Z1)).trans (g1 259 _ h.most)⟩
structure SetOwn (w:World) (base p:Nat) (v:Value) (bi bt:Nat) (S:List Sp):Prop where
 good:∀ x∈S,0≤x.f0/\x.f0≤1073741824/\1≤x.f1.size/\x.f1.size≤64
 few:S.length≤32
 apartI:(S.map (·.f0)).Nodup
 apartT:(S.map (·.f1)).Nodup
 raw:SetRaw w base p v bi bt S S S (firstOf S) (mostOf S)
theorem SetOwn.below {w w':World} {base p:Nat} {v:Value} {bi bt:Nat} {S:List Sp} (h:SetOwn w base p v bi bt S) (hb:Below w.heap.size w w'):SetOwn w' base p v bi bt S :=
 ⟨h.good,h.few,h.apartI,h.apartT,h.raw.below hb⟩
theorem goodB_spec {x:Sp} (h:goodB x=true):0≤x.f0/\x.f0≤1073741824/\1≤x.f1.size/\x.f1.size≤64:=by unfold goodB at h;exact of_decide_eq_true h
theorem SetOwn.snoc {w w':World} {base p:Nat} {v v':Value} {bi bt:Nat} {S:List Sp} {x:Sp} (h:SetOwn w base p v bi bt S) (hg:goodB x=true) (hf:S.length<32) (hi:idxI S x.f0=none) (ht:idx S x.f1=none)
  (hr:SetRaw w' base p v' bi bt (S++[x]) (S++[x]) (S++[x]) (firstOf (S++[x])) (mostOf (S++[x]))):SetOwn w' base p v' bi bt (S++[x]):=by
 refine⟨?_,Z6,?_,?_,hr⟩
 ·intro y hy
  rcases List.mem_append.1 hy with hy|hy
  ·exact h.good y hy
  ·rw[List.mem_singleton.1 hy];exact goodB_spec hg
 ·rw[List.map_append,List.nodup_append]
  refine⟨h.apartI,by simp,?_⟩
  intro a ha b hb e
  simp only[List.map_cons,List.map_nil,List.mem_singleton]at hb
  obtain⟨y,hy,rfl⟩:=List.mem_map.1 ha
  unfold idxI at hi
  have:=List.findIdx?_eq_none_iff.1 hi y hy
  simp at this
  exact this (e.trans hb)
 ·rw[List.map_append,List.nodup_append]
  refine⟨h.apartT,by simp,?_⟩
  intro a ha b hb e
  simp only[List.map_cons,List.map_nil,List.mem_singleton]at hb
  obtain⟨y,hy,rfl⟩:=List.mem_map.1 ha
  unfold idx at ht
  have:=List.findIdx?_eq_none_iff.1 ht y hy
  simp at this
  exact this (e.trans hb)
theorem SetOwn.at {w:World} {base p:Nat} {v:Value} {bi bt:Nat} {S:List Sp} (h:SetOwn w base p v bi bt S):SetAt w p S:=by
 obtain⟨A,c,rfl,h2,h3⟩:=Kd.R_reads h.raw.rows
 exact⟨h.good,h.few,h.apartI,h.apartT,⟨A,c,h.raw.c0,h2,h3⟩,⟨bi,h.raw.c1,h.raw.ids⟩,⟨bt,h.raw.c2,h.raw.texts⟩,h.raw.first,h.raw.most⟩
def addE (S:List Sp) (x:Sp):Int:=if goodB x=true then (if S.length<32 then (if (idxI S x.f0).isSome || (idx S x.f1).isSome then 10 else 0) else 3) else 1
theorem add_no {w:World} {base p:Nat} {v:Value} {bi bt:Nat} {S:List Sp} (h:SetOwn w base p v bi bt S) (x:Sp) (hne:addE S x≠0) :
  Calls Tryz.prog 152 #[.pointer (some ⟨p,0,none⟩),spV x] w fun e w'=>e=.returned (.int .i64 (addE S x))/\Below w.heap.size w w':=by
 obtain⟨A,c,rfl,hc,_⟩:=Kd.R_reads h.raw.rows
 have hp:p<w.heap.size:=World.block_lt_of_cell? w _ h.raw.c0
 have c0:=h.raw.c0
 have c1:=h.raw.c1
 have c2:=h.raw.c2
 have h':=h.below (below_alloc (Below.refl w.heap.size w) (.cells #[.int .i64 x.f0,.string x.f1] 93))
 have hL1:∀ m,(Instr.lookup 188 (.map (some bi)) (.int .i64 x.f0) true).run Tryz.prog ((w.alloc (.cells #[.int .i64 x.f0,.string x.f1] 93)).drewN m)=.ok (.tuple #[(get? (idl S) x.f0).getD (.int .i64 0),.bool (get? (idl S) x.f0).isSome]) ((w.alloc (.cells #[.int .i64 x.f0,.string x.f1] 93)).drewN m):=fun m =>
  lookup_ok (E:=encInt) Tryz.underlying188 Tryz.underlying3 (h'.raw.ids.of_block (by simp)) x.f0 (Z15)
 have hL2:∀ m,(Instr.lookup 189 (.map (some bt)) (.string x.f1) true).run Tryz.prog ((w.alloc (.cells #[.int .i64 x.f0,.string x.f1] 93)).drewN m)=.ok (.tuple #[(get? (txl S) x.f1).getD (.int .i64 0),.bool (get? (txl S) x.f1).isSome]) ((w.alloc (.cells #[.int .i64 x.f0,.string x.f1] 93)).drewN m):=fun m =>
  lookup_ok (E:=encStr) Tryz.underlying189 Tryz.underlying9 (h'.raw.texts.of_block (by simp)) x.f1 (Z15)
 rw[get_idl]at hL1
 rw[get_txl]at hL2
 have HF:=h.few
 clear h h'
 simp only[Option.isSome_map]at hL1 hL2
 generalize (Option.map (fun i:Nat=>Value.int IntKind.i64 (i:Int)) (idxI S x.f0)).getD (.int .i64 0)=g1 at hL1
 generalize (Option.map (fun i:Nat=>Value.int IntKind.i64 (i:Int)) (idx S x.f1)).getD (.int .i64 0)=g2 at hL2
 have HX:=As.mk (right_any x)
 unfold spV at HX
 show Calls Tryz.prog _ #[_,.agg #[.int .i64 x.f0,.string x.f1]] w _
 unfold addE at *
 cases hg:goodB x with
 | false =>
  rw[if_neg (by simp)]
  rw[hg]at HX
  clear hg hne
  generalize (idxI S x.f0).isSome=b1 at hL1
  generalize (idx S x.f1).isSome=b2 at hL2
  go_enter Tryz.func152,Tryz.ntmps152
  go_wp2
  go_quiet (fail)
  go_wp2
  go_quiet (fail)
  go_wp2_with (go_at_call 172;refine(HX.out _).mono ?_;rintro e w1 ⟨rfl,hb1⟩)
  go_ret
  exact⟨rfl,bt_ (pw_below_drewN (below_alloc (Below.refl _ _) _) _) hb1⟩
 | true =>
  rw[hg]at HX hne
  rw[if_pos rfl]at hne ⊢
  clear hg
  by_cases hf:S.length<32
  ·rw[if_pos hf]at hne ⊢
   have hf':¬ (32:Int)≤(S.length:Int):=Z1
   clear HF
   cases hb:((idxI S x.f0).isSome || (idx S x.f1).isSome) with
   | false=>rw[hb]at hne;simp at hne
   | true =>
    rw[if_pos rfl]
    generalize (idxI S x.f0).isSome=b1 at hL1 hb
    generalize (idx S x.f1).isSome=b2 at hL2 hb
    clear hne
    cases b1 with
    | true =>
     clear hb
     go_enter Tryz.func152,Tryz.ntmps152
     go_wp2
     go_quiet (fail)
     go_wp2
     go_quiet (fail)
     go_wp2_with (go_at_call 172;refine(HX.out _).mono ?_;rintro e w1 ⟨rfl,hb1⟩;have HB:=bt_ (pw_below_drewN (below_alloc (Below.refl _ _) _) _) hb1;have c0':=pw_cell_below HB c0;clear hb1)
     go_ret
     exact⟨rfl,HB⟩
    | false =>
     obtain rfl:b2=true:=by simpa using hb
     clear hb
     go_enter Tryz.func152,Tryz.ntmps152
     go_wp2
     go_quiet (fail)
     go_wp2
     go_quiet (fail)
     go_wp2_with (go_at_call 172;refine(HX.out _).mono ?_;rintro e w1 ⟨rfl,hb1⟩;have HB:=bt_ (pw_below_drewN (below_alloc (Below.refl _ _) _) _) hb1;have c0':=pw_cell_below HB c0;clear hb1)
     go_ret
     exact⟨rfl,HB⟩
  ·rw[if_neg hf]
   have hf':(32:Int)≤(S.length:Int):=Z1
   clear hf hne
   generalize (idxI S x.f0).isSome=b1 at hL1
   generalize (idx S x.f1).isSome=b2 at hL2
   go_enter Tryz.func152,Tryz.ntmps152
   go_wp2
   go_quiet (fail)
   go_wp2
   go_quiet (fail)
   go_wp2_with (go_at_call 172;refine(HX.out _).mono ?_;rintro e w1 ⟨rfl,hb1⟩;have HB:=bt_ (pw_below_drewN (below_alloc (Below.refl _ _) _) _) hb1;have c0':=pw_cell_below HB c0;clear hb1)
   go_ret
   exact⟨rfl,HB⟩
end Go.Proofs.YtkffhgiiejbnaaaGreat.Mk
namespace Go.Proofs.YtkffhgiiejbnaaaGreat.Mk
open Go.RowKit YtkffhgiiejbnaaaGreatW.PrintWords YtkffhgiiejbnaaaGreatW.PrintLast YtkffhgiiejbnaaaGreatW.PrintMore Rf Aid Mp
attribute [local go_sem] Aid.max_two Aid.min_two min2_mn max2_mx
theorem frozen_of {w:World} {p t:Nat} {cs:Array Value} (h:w.heap[p]?=some (.cells cs t (0,0))) (o:Nat):w.frozen? ⟨p,o,none⟩=false:=by
 simp[World.frozen?,h]
theorem bt0 (s:ByteArray) (h:0<s.size):bt s 0=((s[0]).toNat:Int):=(bt_at s 0 h).symm
theorem info_sp:(Tryz.prog.info? 93).map (fun i=>(i.zero,i.size,i.bytes))=some (some (.agg #[.int .i64 0,.string ⟨#[]⟩]),2,24):=Z15
theorem idl_snoc (S:List Sp) (x:Sp):idl (S++[x])=idl S++[(x.f0,.int .i64 (S.length:Int))]:=by simp[idl,List.zipIdx_append]
theorem txl_snoc (S:List Sp) (x:Sp):txl (S++[x])=txl S++[(x.f1,.int .i64 (S.length:Int))]:=by simp[txl,List.zipIdx_append]
theorem most_snoc (S:List Sp) (x:Sp):mostOf (S++[x])=max (mostOf S) x.f1.size:=by simp[mostOf]
theorem first_snoc (S:List Sp) (x:Sp) (i:Nat):firstOf (S++[x]) i=(firstOf S i || decide (bt x.f1 0=(i:Int))):=by simp[firstOf]
theorem add_yes {w:World} {base p:Nat} {v:Value} {bi bt:Nat} {S:List Sp} (h:SetOwn w base p v bi bt S) (x:Sp) (hok:addE S x=0) (hbase:base≤w.heap.size) :
  Calls Tryz.prog 152 #[.pointer (some ⟨p,0,none⟩),spV x] w fun e w'=>e=.returned (.int .i64 0)/\∃ v',SetOwn w' base p v' bi bt (S++[x])/\Below base w w':=by
 obtain⟨A,c,rfl,hc,_⟩:=Kd.R_reads h.raw.rows
 have hp:p<w.heap.size:=World.block_lt_of_cell? w _ h.raw.c0
 have c0:=h.raw.c0
 have c1:=h.raw.c1
 have c2:=h.raw.c2
 have h':=h.below (below_alloc (Below.refl w.heap.size w) (.cells #[.int .i64 x.f0,.string x.f1] 93))
 have hok0:=hok
 unfold addE at hok0
 have hg:goodB x=true:=by
  cases hg:goodB x with
  | true=>rfl
  | false=>rw[hg]at hok0;simp at hok0
 rw[hg,if_pos rfl]at hok0
 have hf:S.length<32:=by
  by_cases hf:S.length<32
  ·exact hf
  ·rw[if_neg hf]at hok0;omega
 rw[if_pos hf]at hok0
 have hi1:idxI S x.f0=none:=by
  cases hi:idxI S x.f0 with
  | none=>rfl
  | some j=>rw[hi]at hok0;simp at hok0
 have hi2:idx S x.f1=none:=by
  cases hi:idx S x.f1 with
  | none=>rfl
  | some j=>rw[hi]at hok0;simp at hok0
 clear hok0
 have hL1:∀ m,(Instr.lookup 188 (.map (some bi)) (.int .i64 x.f0) true).run Tryz.prog ((w.alloc (.cells #[.int .i64 x.f0,.string x.f1] 93)).drewN m)=.ok (.tuple #[(get? (idl S) x.f0).getD (.int .i64 0),.bool (get? (idl S) x.f0).isSome]) ((w.alloc (.cells #[.int .i64 x.f0,.string x.f1] 93)).drewN m):=fun m =>
  lookup_ok (E:=encInt) Tryz.underlying188 Tryz.underlying3 (h'.raw.ids.of_block (by simp)) x.f0 (Z15)
 have hL2:∀ m,(Instr.lookup 189 (.map (some bt)) (.string x.f1) true).run Tryz.prog ((w.alloc (.cells #[.int .i64 x.f0,.string x.f1] 93)).drewN m)=.ok (.tuple #[(get? (txl S) x.f1).getD (.int .i64 0),.bool (get? (txl S) x.f1).isSome]) ((w.alloc (.cells #[.int .i64 x.f0,.string x.f1] 93)).drewN m):=fun m =>
  lookup_ok (E:=encStr) Tryz.underlying189 Tryz.underlying9 (h'.raw.texts.of_block (by simp)) x.f1 (Z15)
 rw[get_idl,hi1]at hL1
 rw[get_txl,hi2]at hL2
 have HF:=As.mk h.few
 have HH:=As.mk h
 clear h h'
 simp only[Option.map_none,Option.getD_none,Option.isSome_none]at hL1 hL2
 have HX:=As.mk (right_any x)
 rw[hg]at HX
 unfold spV at HX
 show Calls Tryz.prog _ #[_,.agg #[.int .i64 x.f0,.string x.f1]] w _
 have hf':¬ (32:Int)≤(S.length:Int):=Z1
 have HG:=As.mk (And.intro hg (And.intro hi1 hi2))
 clear hg hi1 hi2 hok
 go_enter Tryz.func152,Tryz.ntmps152
 go_wp2
 go_quiet (fail)
 go_wp2
 go_quiet (fail)
 go_wp2_with (go_at_call 172;refine(HX.out _).mono ?_;rintro e w1 ⟨rfl,hb1⟩;have HB:=As.mk (bt_ (pw_below_drewN (below_alloc (Below.refl _ _) _) _) hb1);have hx0:=pw_cell_below hb1 (a:=⟨w.heap.size,0,none⟩) (v:=.int .i64 x.f0) (by go_simp);have hx1:=pw_cell_below hb1 (a:=⟨w.heap.size,1,none⟩) (v:=.string x.f1) (by go_simp);have c0':=pw_cell_below HB.out c0;have c1':=pw_cell_below HB.out c1;have c2':=pw_cell_below HB.out c2;clear hb1)
 have hpx:p≠bi:=HH.out.raw.npi
 have hpt:p≠bt:=HH.out.raw.npt
 have hwi:w.heap.size≠bi:=fun e=>by have:=HH.out.raw.ids.lt;omega
 have hwt:w.heap.size≠bt:=fun e=>by have:=HH.out.raw.texts.lt;omega
 refine start_ (n:=28) (S:=fun w'=>w'.cell? ⟨p,0,none⟩=some (.slice A S.length c)/\w'.cell? ⟨p,1,none⟩=some (.map (some bi))/\w'.cell? ⟨p,2,none⟩=some (.map (some bt))/\w'.cell? ⟨w.heap.size,0,none⟩=some (.int .i64 x.f0)/\w'.cell? ⟨w.heap.size,1,none⟩=some (.string x.f1)) (ds:=[]) #[false,false,false,false,false,false,false,false,false,false,false,false,false,false,false,false,false,false,false,false,false,false,false,false,false,false,false,false] (Z15) rfl rfl (⟨c0',c1',c2',hx0,hx1⟩) (fun hHeld=>?_)
 have HO2:=As.mk (HH.out.below (below_drew1 HB.out));have HB2:=As.mk (below_drew1 HB.out);clear HB c0' c1' c2' hx0 hx1;generalize w1.drew=w2 at HO2 HB2 hHeld ⊢;obtain⟨n1,w3,r1,b1,k1⟩:=entry_run (P:=Tryz.prog) (E:=encInt) Tryz.underlying188 Tryz.underlying3 HO2.out.raw.ids x.f0 (by rw[get_idl,HG.out.2.1];rfl) (z:=.int .i64 0) (Z15);obtain⟨w4,r2,b2,m1⟩:=k1 (.int .i64 S.length);clear k1;obtain⟨n2,w5,r3,b3,k3⟩:=entry_run (P:=Tryz.prog) (E:=encStr) Tryz.underlying189 Tryz.underlying9 ((HO2.out.raw.texts.of_block ((b1.trans b2).block bt (Ne.symm HO2.out.raw.nit)))) x.f1 (by rw[get_txl,HG.out.2.2];rfl) (z:=.int .i64 0) (Z15);obtain⟨w6,r4,b4,m2⟩:=k3 (.int .i64 S.length);clear k3;simp only[encInt,encStr]at r1 r2 r3 r4
 refine pI 0 (some 45) (bs 28 1) ?_
 refine pI 1 (some 46) (bs 28 3) ?_
 refine pI 2 (some 47) (bs 28 7) ?_
 refine pI 4 (some 49) (bs 28 23) ?_
 refine pI 6 (some 51) (bs 28 87) ?_
 refine pI 7 (some 52) (bs 28 215) ?_
 refine pI 8 (some 53) (bs 28 471) ?_
 refine pI 10 (some 55) (bs 28 1495) ?_
 refine pI 12 (some 57) (bs 28 5591) ?_
 refine pI 13 (some 58) (bs 28 13783) ?_
 refine pI 14 (some 59) (bs 28 30167) ?_
 refine pI 17 (some 62) (bs 28 161239) ?_
 refine pI 18 (some 63) (bs 28 423383) ?_
 refine pI 19 (some 64) (bs 28 947671) ?_
 refine tI 3 (some 48) (bs 28 947679) rfl (Z93) hHeld ?_
 refine tI 5 (some 50) (bs 28 947711) rfl (Z93) hHeld ?_
 refine tI 9 (some 54) (bs 28 948223) rfl (Z93) hHeld ?_
 refine tI 11 (some 56) (bs 28 950271) rfl (Z93) hHeld ?_
 refine tI 15 (some 60) (bs 28 983039) rfl (Z93) hHeld ?_
 refine pI 16 (some 61) (bs 28 1048575) ?_
 refine tI 20 (some 65) (bs 28 2097151) rfl (Z93) hHeld ?_
 refine pI 21 (some 66) (bs 28 4194303) ?_
 refine one_ (i:=22) (N:=some 67) (bs 28 8388607) rfl rfl (Z15) (Z31) (fun K hK=>?_)
 refine value_ (w1:=w3) (v:=.tuple #[.int .i64 0,.int .i64 n1]) (by rfl) rfl ?_ ?_
 ·first|(go_simp;done)|(go_simp;rfl)
 refine hK.out _ _ (by simpa only[b1.cell (a:=⟨p,0,none⟩) hpx,b1.cell (a:=⟨p,1,none⟩) hpx,b1.cell (a:=⟨p,2,none⟩) hpx,b1.cell (a:=⟨w.heap.size,0,none⟩) hwi,b1.cell (a:=⟨w.heap.size,1,none⟩) hwi] using hHeld) (fun hHeld=>?_)
 clear hK K
 refine nI ?_
 refine pI 23 (some 68) (bs 28 16777215) ?_
 refine one_ (i:=24) (N:=none) (bs 28 33554431) rfl rfl (Z15) (Z31) (fun K hK=>?_)
 refine skip_ (w1:=w4) (by rfl) rfl ?_ ?_
 ·first|(go_simp;done)|(go_simp;rfl)
 refine hK.out _ _ (by simpa only[b2.cell (a:=⟨p,0,none⟩) hpx,b2.cell (a:=⟨p,1,none⟩) hpx,b2.cell (a:=⟨p,2,none⟩) hpx,b2.cell (a:=⟨w.heap.size,0,none⟩) hwi,b2.cell (a:=⟨w.heap.size,1,none⟩) hwi] using hHeld) (fun hHeld=>?_)
 clear hK K
 refine one_ (i:=25) (N:=some 69) (bs 28 67108863) rfl rfl (Z15) (Z31) (fun K hK=>?_)
 refine value_ (w1:=w5) (v:=.tuple #[.int .i64 0,.int .i64 n2]) (by rfl) rfl ?_ ?_
 ·first|(go_simp;done)|(go_simp;rfl)
 refine hK.out _ _ (by simpa only[b3.cell (a:=⟨p,0,none⟩) hpt,b3.cell (a:=⟨p,1,none⟩) hpt,b3.cell (a:=⟨p,2,none⟩) hpt,b3.cell (a:=⟨w.heap.size,0,none⟩) hwt,b3.cell (a:=⟨w.heap.size,1,none⟩) hwt] using hHeld) (fun hHeld=>?_)
 clear hK K
 refine nI ?_
 refine pI 26 (some 70) (bs 28 134217727) ?_
 refine one_ (i:=27) (N:=none) (bs 28 268435455) rfl rfl (Z15) (Z31) (fun K hK=>?_)
 refine skip_ (w1:=w6) (by rfl) rfl ?_ ?_
 ·first|(go_simp;done)|(go_simp;rfl)
 refine hK.out _ _ (by simpa only[b4.cell (a:=⟨p,0,none⟩) hpt,b4.cell (a:=⟨p,1,none⟩) hpt,b4.cell (a:=⟨p,2,none⟩) hpt,b4.cell (a:=⟨w.heap.size,0,none⟩) hwt,b4.cell (a:=⟨w.heap.size,1,none⟩) hwt] using hHeld) (fun hHeld=>?_)
 clear hK K
 refine done_ (Z15) ?_
 have hx0:=hHeld.2.2.2.1
 have hx1:=hHeld.2.2.2.2
 have HW:=As.mk ((HO2.out.raw.putI (b1.trans b2) (I':=S++[x]) (by rw[idl_snoc];exact m1)).putT (b3.trans b4) (T':=S++[x]) (by rw[txl_snoc];exact m2))
 have HB:=As.mk ((((HB2.out.mono hbase).trans ((b1.trans b2).below HO2.out.raw.li)).trans ((b3.trans b4).below HO2.out.raw.lt)))
 rename_i hH1 hH2 hH3 hH4
 clear r1 r2 r3 r4 b1 b2 b3 b4 m1 m2 HO2 HB2 hHeld hH1 hH2 hH3 hH4 hL1 hL2 HX hpx hpt hwi hwt c0 c1 c2
 go_wp2
 have hgood:1≤x.f1.size:=by have:=HG.out.1;unfold goodB at this;have:=of_decide_eq_true this;omega
 have e1:0<x.f1.size:=Z1
 have e2:(0:Int)<x.f1.size:=Z1
 have hb256:(x.f1[0]).toNat<256:=(x.f1[0]).toNat_lt
 have HBT:=As.mk (bt0 x.f1 e1)
 generalize hcb:(x.f1[0]).toNat=cb at *
 have hb256i:(cb:Int)<256:=Z1
 have hcF:=HW.out.first cb hb256
 obtain⟨cs6,hcs6⟩:=HW.out.blk
 have hfz:=frozen_of hcs6 (3+cb)
 clear hcs6
 refine start_ (n:=8) (S:=fun w'=>w'.cell? ⟨w.heap.size,1,none⟩=some (.string x.f1)) (ds:=[7]) #[false,false,false,false,false,false,false,false] (Z15) rfl rfl (hx1) (fun hHeld=>?_)
 have HW7:=As.mk (HW.out.below (below_drew1 (Below.refl _ _)));have HB7:=As.mk (below_drew1 HB.out);have hx07:w6.drew.cell? ⟨w.heap.size,0,none⟩=some (.int .i64 x.f0):=hx0;have hcF7:w6.drew.cell? ⟨p,3+cb,none⟩=some (.bool (firstOf S cb)):=hcF;have hfz7:w6.drew.frozen? ⟨p,3+cb,none⟩=false:=hfz;clear HW HB hx0 hx1 hcF hfz;generalize w6.drew=w7 at HW7 HB7 hx07 hcF7 hfz7 hHeld ⊢
 refine pI 0 (some 71) (bs 8 1) ?_
 refine pI 1 (some 72) (bs 8 3) ?_
 refine pI 4 (some 75) (bs 8 19) ?_
 refine pI 5 (some 76) (bs 8 51) ?_
 refine tI 2 (some 73) (bs 8 55) rfl (Z88) hHeld ?_
 refine pI 3 (some 74) (bs 8 63) ?_
 refine pI 6 (some 77) (bs 8 127) ?_
 refine last_ (i:=7) (N:=none) (bs 8 255) rfl rfl (Z15) (Z31) (fun K hK=>?_)
 refine skip_ (w1:=w7.setCell ⟨p,3+cb,none⟩ (.bool true)) (by rfl) rfl ?_ ?_
 ·first|(go_simp;done)|(go_simp;rfl)
 refine hK.out _ _ ?_
 clear hK K
 refine done_ (Z15) ?_
 have HW:=As.mk (HW7.out.store (F':=fun i=>firstOf (S++[x]) i) (M':=mostOf S) (3+cb) (.bool true) (Z1) (Z1) HW7.out.rows (Z178) (fun i hi=>by
  rw[first_snoc,HBT.out]
  by_cases e:cb=i
  ·subst e;rw[if_pos rfl];simp
  ·rw[if_neg (Z1)];simp;omega) (Z178))
 have HB:=As.mk (HB7.out.setCell (p:=⟨p,3+cb,none⟩) HW7.out.lp (.bool true))
 have hwp:w.heap.size≠p:=fun e=>Z1
 have hx0:(w7.setCell ⟨p,3+cb,none⟩ (.bool true)).cell? ⟨w.heap.size,0,none⟩=some (.int .i64 x.f0):=Z94
 have hx1:(w7.setCell ⟨p,3+cb,none⟩ (.bool true)).cell? ⟨w.heap.size,1,none⟩=some (.string x.f1):=by rw[World.cell?_setCell_far _ _ _ _ (Ne.symm hwp)];exact hHeld
 clear HW7 HB7 hx07 hHeld hcF7 hfz7
 generalize w7.setCell ⟨p,3+cb,none⟩ (.bool true)=w8 at HW HB hx0 hx1 ⊢
 go_wp2
 have hm0:=HW.out.most
 obtain⟨cs8,hcs8⟩:=HW.out.blk
 have hfz:=frozen_of hcs8 259
 clear hcs8
 have hmx:mxI (mostOf S:Int) (x.f1.size:Int)=((mostOf (S++[x]):Nat):Int):=by rw[most_snoc];unfold mxI;split <;> omega
 refine start_ (n:=12) (S:=fun w'=>w'.cell? ⟨w.heap.size,1,none⟩=some (.string x.f1)/\w'.cell? ⟨p,259,none⟩=some (.int .i64 (mostOf S:Int))) (ds:=[11]) #[false,false,false,false,false,false,false,false,false,false,false,false] (Z15) rfl rfl (⟨hx1,hm0⟩) (fun hHeld=>?_)
 have HW7:=As.mk (HW.out.below (below_drew1 (Below.refl _ _)));have HB7:=As.mk (below_drew1 HB.out);have hx07:w8.drew.cell? ⟨w.heap.size,0,none⟩=some (.int .i64 x.f0):=hx0;have hfz7:w8.drew.frozen? ⟨p,259,none⟩=false:=hfz;clear HW HB hx0 hx1 hm0 hfz;generalize w8.drew=w9 at HW7 HB7 hx07 hfz7 hHeld ⊢
 refine pI 0 (some 78) (bs 12 1) ?_
 refine pI 1 (some 79) (bs 12 3) ?_
 refine pI 2 (some 80) (bs 12 7) ?_
 refine pI 3 (some 81) (bs 12 15) ?_
 refine pI 5 (some 83) (bs 12 47) ?_
 refine tI 4 (some 82) (bs 12 63) rfl (Z89) hHeld ?_
 refine tI 6 (some 84) (bs 12 127) rfl (Z89) hHeld ?_
 refine pI 7 (some 85) (bs 12 255) ?_
 refine pI 8 (some 86) (bs 12 511) ?_
 refine pI 9 (some 87) (bs 12 1023) ?_
 refine pI 10 (some 88) (bs 12 2047) ?_
 refine last_ (i:=11) (N:=none) (bs 12 4095) rfl rfl (Z15) (Z31) (fun K hK=>?_)
 obtain⟨hh1,hh2⟩:=hHeld
 refine skip_ (w1:=w9.setCell ⟨p,259,none⟩ (.int .i64 (mostOf (S++[x]):Int))) (by rfl) rfl ?_ ?_
 ·first|(go_simp;done)|(go_simp;rfl)
 refine hK.out _ _ ?_
 clear hK K
 refine done_ (Z15) ?_
 have HW:=As.mk (HW7.out.store (F':=firstOf (S++[x])) (M':=mostOf (S++[x])) 259 (.int .i64 (mostOf (S++[x]):Int)) (Z1) (Z1) HW7.out.rows (Z178) (fun i hi=>Z178) (by rw[if_pos rfl]))
 have HB:=As.mk (HB7.out.setCell (p:=⟨p,259,none⟩) HW7.out.lp (.int .i64 (mostOf (S++[x]):Int)))
 have hx0:(w9.setCell ⟨p,259,none⟩ (.int .i64 (mostOf (S++[x]):Int))).cell? ⟨w.heap.size,0,none⟩=some (.int .i64 x.f0):=Z94
 have hx1:(w9.setCell ⟨p,259,none⟩ (.int .i64 (mostOf (S++[x]):Int))).cell? ⟨w.heap.size,1,none⟩=some (.string x.f1):=by rw[World.cell?_setCell_far _ _ _ _ (Ne.symm hwp)];exact hh1
 clear HW7 HB7 hx07 hh1 hh2 hfz7 hmx
 generalize w9.setCell ⟨p,259,none⟩ (.int .i64 (mostOf (S++[x]):Int))=w10 at HW HB hx0 hx1 ⊢
 go_wp2
 have hl0:=HW.out.c0
 have HA:=As.mk (R_away HH.out.raw.rows (Nat.le_refl _))
 refine start_ (n:=11) (S:=fun w'=>w'.cell? ⟨p,0,none⟩=some (.slice A S.length c)/\w'.cell? ⟨w.heap.size,0,none⟩=some (.int .i64 x.f0)/\w'.cell? ⟨w.heap.size,1,none⟩=some (.string x.f1)) (ds:=[10]) #[false,false,false,false,false,false,false,false,false,false,false] (Z15) rfl rfl (⟨hl0,hx0,hx1⟩) (fun hHeld=>?_)
 have HW7:=As.mk (HW.out.below (below_drew1 (Below.refl _ _)));have HB7:=As.mk (below_drew1 HB.out);clear HW HB hx0 hx1 hl0;generalize w10.drew=w11 at HW7 HB7 hHeld ⊢;have HH11:=As.mk hHeld
 refine pI 0 (some 89) (bs 11 1) ?_
 refine pI 1 (some 90) (bs 11 3) ?_
 refine pI 2 (some 91) (bs 11 7) ?_
 refine pI 3 (some 92) (bs 11 15) ?_
 refine tI 4 (some 93) (bs 11 31) rfl (Z95) hHeld ?_
 refine tI 5 (some 94) (bs 11 63) rfl (Z95) hHeld ?_
 refine one_ (i:=6) (N:=some 95) (bs 11 127) rfl rfl (Z15) (Z31) (fun K hK=>?_)
 refine value_ (w1:=w11.alloc (.cells #[.int .i64 x.f0,.string x.f1] 93)) (v:=.slice (some ⟨w11.heap.size,0,none⟩) 1 1) (by rfl) rfl ?_ ?_
 ·first|(go_simp;done)|(go_simp;rfl)
 refine hK.out _ _ (⟨pw_cell_below (below_alloc (Below.refl _ _) _) hHeld.1,pw_cell_below (below_alloc (Below.refl _ _) _) hHeld.2.1,pw_cell_below (below_alloc (Below.refl _ _) _) hHeld.2.2⟩) (fun hHeld=>?_)
 clear hK K
 refine nI ?_
 refine one_ (i:=7) (N:=some 96) (bs 11 255) rfl rfl (Z15) (Z31) (fun K hK=>?_)
 refine Kd.R_append_step kSp (w0:=w) base (by rfl) (.tmp 93) (.tmp 95) 25 93 (.agg #[.int .i64 0,.string ⟨#[]⟩]) 24 rfl Tryz.underlying25 info_sp rfl (Z31) (Z1) (.slice A S.length c) S x [.int .i64 x.f0,.string x.f1] (fun _=>True) (fun _=>False) rfl ?aX ?aP (fun _ hk=>hk.elim) (fun _ _=>trivial) HW7.out.rows HB7.out (Nat.le_trans hbase HB7.out.size) (Z1) ?_
 (case aX=>exact rfl)
 (case aP=>exact k93_mkM _ _ _ x)
 intro v1 w12 ho hb hg hat
 obtain⟨A1,c1,rfl⟩:=Kd.R_slice ho
 have hc12:=(HW7.out.grown hg).1 0 _ HW7.out.c0
 obtain⟨cs12,hcs12⟩:=(HW7.out.grown hg).2.1
 have hfz:=frozen_of hcs12 0
 have HG12:=As.mk (And.intro (HW7.out.close hg ho) hb)
 refine hK.out _ _ ⟨hc12,cell_grown hg HH11.out.2.1 HA.out,cell_grown hg HH11.out.2.2 HA.out⟩ (fun hHeld=>?_)
 clear hK K
 refine nI ?_
 refine pI 8 (some 97) (bs 11 511) ?_
 refine pI 9 (some 98) (bs 11 1023) ?_
 refine last_ (i:=10) (N:=none) (bs 11 2047) rfl rfl (Z15) (Z31) (fun K hK=>?_)
 refine skip_ (w1:=w12.setCell ⟨p,0,none⟩ (.slice A1 (S++[x]).length c1)) (by rfl) rfl ?_ ?_
 ·first|(go_simp;done)|(go_simp;rfl)
 refine hK.out _ _ ?_
 clear hK K
 refine done_ (Z15) ?_
 go_wp2
 go_ret
 have h12:=HG12.out
 rw[show (S++[x]).length=S.length+1 from by simp]at h12
 exact⟨rfl,_,HH.out.snoc HG.out.1 hf HG.out.2.1 HG.out.2.2 h12.1,h12.2.setCell (p:=⟨p,0,none⟩) HH.out.raw.lp _⟩
end Go.Proofs.YtkffhgiiejbnaaaGreat.Mk
namespace Go.Proofs.YtkffhgiiejbnaaaGreat.Mk
open Go.RowKit YtkffhgiiejbnaaaGreatW.PrintWords YtkffhgiiejbnaaaGreatW.PrintLast YtkffhgiiejbnaaaGreatW.PrintMore Rf Aid Mp
def newF (S:List Sp):List Sp->Nat->Nat × Int
 | [],n=>(n,0)
 | x::l,n=>if addE S x=0 then newF (S++[x]) l (n+1) else (n,addE S x)
def newP (l:List Sp):Nat × Int:=newF [] l 0
def SetV (w:World) (v:Value):Option (List Sp)->Prop
 | none=>v=.pointer none
 | some S=>∃ p,v=.pointer (some ⟨p,0,none⟩)/\SetAt w p S
def setZero:Array Value:=(([Value.slice none 0 0,Value.map none,Value.map none]++List.replicate 256 (Value.bool false))++[Value.int IntKind.i64 0]).toArray
theorem setZero_run (w:World):(zeroValue 192).run Tryz.prog w=.ok (.agg setZero) w:=Z15
theorem setZero_size:setZero.size=260:=Z15
def setNew (a b:Value):Array Value:=(setZero.setIfInBounds 1 a).setIfInBounds 2 b
theorem setNew_0 (a b:Value):(setNew a b)[0]?=some (.slice none 0 0):=Z15
theorem setNew_1 (a b:Value):(setNew a b)[1]?=some a:=Z15
theorem setNew_2 (a b:Value):(setNew a b)[2]?=some b:=Z15
theorem setNew_f (a b:Value) (i:Nat) (h:i<256):(setNew a b)[3+i]?=some (.bool false):=by
 simp only[setNew,Array.getElem?_setIfInBounds]
 rw[if_neg (Z1),if_neg (Z1)]
 simp only[setZero,List.getElem?_toArray]
 rw[List.getElem?_append_left (by rw[List.length_append,List.length_replicate];simp only[List.length_cons,List.length_nil];omega),List.getElem?_append_right (Z96),List.getElem?_replicate,if_pos (Z96)]
theorem setNew_m (a b:Value):(setNew a b)[259]?=some (.int .i64 0):=Z15
theorem push3 {α:Type} (h:Array α) (a b c:α):(((h.push a).push b).push c)[h.size]?=some a/\(((h.push a).push b).push c)[h.size+1]?=some b/\(((h.push a).push b).push c)[h.size+2]?=some c:=by
 refine⟨?_,?_,?_⟩
 ·rw[Array.getElem?_push,if_neg (Z6),Array.getElem?_push,if_neg (by simp),Array.getElem?_push,if_pos rfl]
 ·rw[Array.getElem?_push,if_neg (by simp),Array.getElem?_push,if_pos (by simp)]
 ·rw[Array.getElem?_push,if_pos (by simp)]
theorem setNew_own (w:World):SetOwn (((w.alloc (.map #[] 0)).alloc (.map #[] 0)).alloc (.cells (setNew (.map (some w.heap.size)) (.map (some (w.heap.size+1)))) 192)) w.heap.size (w.heap.size+2) (.slice none 0 0) w.heap.size (w.heap.size+1) []:=by
 obtain⟨h0,h1,h2⟩:=push3 w.heap (.map #[] 0) (.map #[] 0) (.cells (setNew (.map (some w.heap.size)) (.map (some (w.heap.size+1)))) 192)
 obtain⟨W,hW⟩:∃ W,W=((w.alloc (.map #[] 0)).alloc (.map #[] 0)).alloc (.cells (setNew (.map (some w.heap.size)) (.map (some (w.heap.size+1)))) 192):=⟨_,rfl⟩
 rw[←hW]
 replace h0:W.heap[w.heap.size]?=some (.map #[] 0):=by rw[hW];exact h0
 replace h1:W.heap[w.heap.size+1]?=some (.map #[] 0):=by rw[hW];exact h1
 replace h2:W.heap[w.heap.size+2]?=some (.cells (setNew (.map (some w.heap.size)) (.map (some (w.heap.size+1)))) 192):=by rw[hW];exact h2
 have hcell:∀ i,W.cell? ⟨w.heap.size+2,i,none⟩=(setNew (.map (some w.heap.size)) (.map (some (w.heap.size+1))))[i]?:=by
  intro i
  simp only[World.cell?,h2]
  rfl
 refine⟨by simp,by simp,by simp,by simp,⟨Z1,Z1,Z1,Z1,⟨_,h2⟩,Kd.R_nil _ _ _ _ _,?_,?_,?_,?_,?_,?_,?_⟩⟩
 ·rw[hcell];exact setNew_0 _ _
 ·rw[hcell];exact setNew_1 _ _
 ·rw[hcell];exact setNew_2 _ _
 ·exact⟨#[],0,h0,MapKept.stamped_empty 0,rfl⟩
 ·exact⟨#[],0,h1,MapKept.stamped_empty 0,rfl⟩
 ·intro i hi;rw[hcell,setNew_f _ _ _ hi];rfl
 ·rw[hcell];exact setNew_m _ _
def SetVO (w:World) (base:Nat) (v:Value):Option (List Sp)->Prop
 | none=>v=.pointer none
 | some S=>∃ p sv bi bt,v=.pointer (some ⟨p,0,none⟩)/\SetOwn w base p sv bi bt S
theorem SetOwn.far {w:World} {base p:Nat} {v:Value} {bi bt:Nat} {S:List Sp} (h:SetOwn w base p v bi bt S) {a:Addr} (ha:a.block<base) (u:Value):SetOwn (w.setCell a u) base p v bi bt S:=by
 have hr:=h.raw
 obtain⟨cs,hc⟩:=hr.blk
 have hp:p≠a.block:=by have:=hr.lp;omega
 exact⟨h.good,h.few,h.apartI,h.apartT,⟨hr.lp,hr.li,hr.lt,hr.nit,⟨cs,blk_far hc hp u⟩,Kd.R_mono (Kd.R_far (Kd.R_bound hr.rows) (fun k hk=>by have:=hk.2.1;omega) u) (fun _ _=>trivial),by rw[World.cell?_setCell_far _ _ _ _ (Ne.symm hp)];exact hr.c0,by rw[World.cell?_setCell_far _ _ _ _ (Ne.symm hp)];exact hr.c1,by rw[World.cell?_setCell_far _ _ _ _ (Ne.symm hp)];exact hr.c2,
  hr.ids.of_block (Below.heap_setCell w a u bi (by have:=hr.li;omega)),hr.texts.of_block (Below.heap_setCell w a u bt (by have:=hr.lt;omega)),fun i hi=>by rw[World.cell?_setCell_far _ _ _ _ (Ne.symm hp)];exact hr.first i hi,by rw[World.cell?_setCell_far _ _ _ _ (Ne.symm hp)];exact hr.most⟩⟩
theorem SetOwn.lower {w:World} {base base' p:Nat} {v:Value} {bi bt:Nat} {S:List Sp} (h:SetOwn w base p v bi bt S) (hb:base'≤base):SetOwn w base' p v bi bt S:=by
 have hr:=h.raw
 exact⟨h.good,h.few,h.apartI,h.apartT,⟨Nat.le_trans hb hr.lp,Nat.le_trans hb hr.li,Nat.le_trans hb hr.lt,hr.nit,hr.blk,Kd.R_lower hr.rows hb,hr.c0,hr.c1,hr.c2,hr.ids,hr.texts,hr.first,hr.most⟩⟩
theorem new_own (A:Option Addr) (c:Nat) (l:List Sp) (w:World) (hr:Kd.C kSp w A l.length l) (hl:l.length≤9223372036854775807) :
  Calls Tryz.prog 118 #[.slice A l.length c] w fun e w'=>∃ v,e=.returned (.tuple #[v,.int .i64 (newP l).1,.int .i64 (newP l).2])/\SetVO w' w.heap.size v (if (newP l).2=0 then some l else none)/\Below w.heap.size w w':=by
 have HR:=As.mk hr
 clear hr
 obtain⟨R,hR⟩:∃ R,newP l=R:=⟨_,rfl⟩
 have HR0:=As.mk (show newF [] l 0=R from hR)
 rw[hR]
 clear hR
 have hmm:=@run_makeMap Tryz.prog
 have hz:=setZero_run
 have hzs:=setZero_size
 go_enter Tryz.func118,Tryz.ntmps118
 go_wp2_with fail
 have HO0:=As.mk (setNew_own w)
 have HB0:=As.mk (below_alloc (below_alloc (below_alloc (Below.refl w.heap.size w) (.map #[] 0)) (.map #[] 0)) (.cells (setNew (.map (some w.heap.size)) (.map (some (w.heap.size+1)))) 192))
 unfold setNew at HO0 HB0
 clear hmm hz hzs
 simp only[Nat.add_assoc,Nat.reduceAdd]at HO0 HB0 ⊢
 generalize ((w.alloc (.map #[] 0)).alloc (.map #[] 0)).alloc (.cells ((setZero.setIfInBounds 1 (.map (some w.heap.size))).setIfInBounds 2 (.map (some (w.heap.size+1)))) 192)=W0 at HO0 HB0 ⊢
 go_loopg [15] l.length (fun k v w'=>∃ (i:Nat) (sv:Value),v=.int .i64 i/\i≤l.length/\As (SetOwn w' w.heap.size (w.heap.size+2) sv w.heap.size (w.heap.size+1) (l.take i))/\As (newF (l.take i) (l.drop i) i=R)/\As (l.length-i≤k)/\As (Below w.heap.size w w'))
 case atStart=>exact⟨0,.slice none 0 0,rfl,Nat.zero_le _,HO0,HR0,⟨Z1⟩,HB0⟩
 case round =>
  clear HO0 HB0 HR0
  obtain⟨i,sv,rfl,hi,HO,HF,HK,HB⟩:=hrel
  by_cases hlt:i<l.length
  ·obtain⟨k1,rfl⟩:∃ k1,gk=k1+1:=⟨gk-1,Z65⟩
   obtain⟨ad,rfl,x0,x1⟩:=at_T93 (Kd.C_below HR.out HB.out) (i:Int) (Z1) (Z1)
   have hltI:(i:Int)<l.length:=Z1
   have hd:l.drop i=rd_T93 l i::l.drop (i+1):=by
    rw[List.drop_eq_getElem_cons hlt];unfold rd_T93;rw[Int.toNat_natCast,List.getD_eq_getElem?_getD,List.getElem?_eq_getElem hlt];rfl
   have ht:l.take (i+1)=l.take i++[rd_T93 l i]:=by
    rw[List.take_succ_eq_append_getElem hlt];unfold rd_T93;rw[Int.toNat_natCast,List.getD_eq_getElem?_getD,List.getElem?_eq_getElem hlt];rfl
   have HF':=As.mk (show newF (l.take i) (rd_T93 l i::l.drop (i+1)) i=R from hd ▸ HF.out)
   have HT:=As.mk ht
   clear hd ht HF
   rw[Int.toNat_natCast]at x0 x1
   generalize rd_T93 l i=x at *
   by_cases he:addE (l.take i) x=0
   ·have hA:=HF'.out
    unfold newF at hA
    rw[if_pos he]at hA
    have HA:=As.mk hA
    have HE:=As.mk he
    clear hA HF' he
    go_wp2_with (go_at_call 152;refine(add_yes (HO.out.below (below_alloc (Below.refl _ _) _)) x HE.out (Z73)).mono ?_;rintro e w1 ⟨rfl,v',ho,hb⟩;have HO1:=As.mk ho;have HB1:=As.mk ((below_alloc HB.out _).trans hb);clear ho hb HO HB)
    go_roundg k1
    case measure=>omega
    case rel=>exact⟨i+1,v',Z67,Z1,⟨by rw[HT.out];exact HO1.out⟩,⟨by rw[HT.out];exact HA.out⟩,⟨Z65⟩,HB1⟩
   ·have hA:=HF'.out
    unfold newF at hA
    rw[if_neg he]at hA
    subst hA
    have HE:=As.mk he
    have he0:(addE (l.take i) x==0)=false:=Z74
    have he1:(addE (l.take i) x != 0)=true:=Z74
    clear HF'
    go_wp2_with (go_at_call 152;refine(add_no (HO.out.below (below_alloc (Below.refl _ _) _)) x HE.out).mono ?_;rintro e w1 ⟨rfl,hb⟩;have HB1:=As.mk (bt_ (below_alloc HB.out _) hb);clear hb HO HB)
    go_ret3
    refine⟨_,rfl,?_,HB1.out⟩
    (try rw[if_neg HE.out])
    rfl
  ·obtain rfl:i=l.length:=by omega
   have hA:=HF.out
   rw[List.drop_length]at hA
   unfold newF at hA
   subst hA
   go_wp2
   go_ret3
   refine⟨_,rfl,?_,HB.out⟩
   (try rw[if_pos rfl])
   have:=HO.out
   rw[List.take_length]at this
   exact⟨_,_,_,_,rfl,this⟩
theorem new_any (A:Option Addr) (c:Nat) (l:List Sp) (w:World) (hr:Kd.C kSp w A l.length l) (hl:l.length≤9223372036854775807) :
  Calls Tryz.prog 118 #[.slice A l.length c] w fun e w'=>∃ v,e=.returned (.tuple #[v,.int .i64 (newP l).1,.int .i64 (newP l).2])/\SetV w' v (if (newP l).2=0 then some l else none)/\Below w.heap.size w w':=by
 refine(new_own A c l w hr hl).mono ?_
 rintro e w' ⟨v,rfl,h,hb⟩
 refine⟨v,rfl,?_,hb⟩
 by_cases h0:(newP l).2=0
 ·rw[if_pos h0]at h ⊢
  obtain⟨p,sv,bi,bt,e,ho⟩:=h
  exact⟨p,e,ho.at⟩
 ·rw[if_neg h0]at h ⊢
  exact h
end Go.Proofs.YtkffhgiiejbnaaaGreat.Mk
