import Derived.BigQuiet
import Derived.Test.YtkffhgiiejbnaaaGreatZHp
import Derived.Test.YtkffhgiiejbnaaaGreatZBndA
import Derived.Test.YtkffhgiiejbnaaaGreatZ01
import Derived.Test.YtkffhgiiejbnaaaGreatZ03
set_option maxRecDepth 100000
set_option maxHeartbeats 1000000
set_option linter.unusedVariables false
set_option linter.unusedSimpArgs false
namespace Go.Proofs.YtkffhgiiejbnaaaGreat.Rt
open Go.RowKit YtkffhgiiejbnaaaGreatW.PrintWords YtkffhgiiejbnaaaGreatW.PrintLast YtkffhgiiejbnaaaGreatW.PrintMore Rf Aid Mp Hp Bn
theorem class_run (C:List S165) (J:List S108) (b:Nat) (hb:b<256) (hC:C.length≤1000000):∀ (n k:Nat),n<k->n≤C.length->ligatureref08_Table_Class.l0 k (b:Int) ((n:Int)-1) C J=some (cls (C.take n) b)
 | 0,k,h1,h2=>by
  obtain⟨k,rfl⟩:∃ m,k=m+1:=⟨k-1,Z1⟩
  simp only[ligatureref08_Table_Class.l0]
  rw[if_neg (Z1)]
  rfl
 | n+1,k,h1,h2=>by
  obtain⟨k,rfl⟩:∃ m,k=m+1:=⟨k-1,Z1⟩
  have hlt:n<C.length:=Z1
  have e1:(((n+1:Nat):Int)-1)=(n:Int):=Z1
  have hrd:rd_T165 C (n:Int)=C[n]:=Z92
  have hw:wrap64 (b:Int)=(b:Int):=w64 (Z1) (Z1)
  have hw2:wrap64 ((n:Int)-1)=(n:Int)-1:=w64 (Z1) (Z1)
  rw[e1]
  simp only[ligatureref08_Table_Class.l0]
  rw[if_pos (Z1),if_pos (Z1),if_pos (Z1),hrd,hw,hw2,class_run C J b hb hC n k (Z1) (Z1),List.take_succ_eq_append_getElem hlt,cls_snoc]
  by_cases g1:(b:Int) ≥ (C[n]).f0
  ·rw[if_pos g1]
   by_cases g2:(b:Int)≤(C[n]).f1
   ·rw[if_pos g2,if_pos ⟨g1,g2⟩]
   ·rw[if_neg g2,if_neg (fun h=>g2 h.2)]
  ·rw[if_neg g1,if_neg (fun h=>g1 h.1)]
theorem class_some (C:List S165) (J:List S108) (b:Nat) (hb:b<256) (hC:C.length≤1000000) (k:Nat) (hk:C.length<k):ligatureref08_Table_Class.f k C J (b:Int)=some (cls C b):=by
 have:=class_run C J b hb hC C.length k hk (Nat.le_refl _)
 rw[List.take_of_length_le (Nat.le_refl _)]at this
 unfold ligatureref08_Table_Class.f
 rw[w64 (Z1) (Z1)]
 exact this
def cutI (C:List S165) (J:List S108) (a b:Nat):Bool:=(cls C a != cls C b) && !(J.any (fun j=>decide (j.f0=cls C a/\j.f1=cls C b)))
theorem cuts_run (C:List S165) (J:List S108) (x y:Int) (hJ:J.length≤1000000):∀ (d k i:Nat),J.length-i=d->d<k->i≤J.length->ligatureref08_Table_Cuts.l0 k x y (i:Int) C J=some ((x != y) && !((J.drop i).any (fun j=>decide (j.f0=x/\j.f1=y))))
 | 0,k,i,h0,h1,h2=>by
  obtain⟨k,rfl⟩:∃ m,k=m+1:=⟨k-1,Z1⟩
  simp only[ligatureref08_Table_Cuts.l0]
  rw[if_neg (Z1),List.drop_eq_nil_of_le (Z1)]
  simp
 | d+1,k,i,h0,h1,h2=>by
  obtain⟨k,rfl⟩:∃ m,k=m+1:=⟨k-1,Z1⟩
  have hlt:i<J.length:=Z1
  have hrd:rd_T108 J (i:Int)=J[i]:=Z93
  have hw:wrap64 ((i:Int)+1)=((i+1:Nat):Int):=(w64 (Z1) (Z1)).trans (Z1)
  simp only[ligatureref08_Table_Cuts.l0]
  rw[if_pos (Z1),if_pos (Z1),hrd,hw,cuts_run C J x y hJ d k (i+1) (Z1) (Z1) (Z1),List.drop_eq_getElem_cons hlt,List.any_cons]
  by_cases g1:(J[i]).f0=x
  ·rw[if_pos g1]
   by_cases g2:(J[i]).f1=y
   ·rw[if_pos g2,decide_eq_true ⟨g1,g2⟩];simp
   ·rw[if_neg g2,decide_eq_false (fun h=>g2 h.2),Bool.false_or]
  ·rw[if_neg g1,decide_eq_false (fun h=>g1 h.1),Bool.false_or]
theorem cuts_some (C:List S165) (J:List S108) (a b:Nat) (ha:a<256) (hb:b<256) (hC:C.length≤1000000) (hJ:J.length≤1000000) (k:Nat) (hk:C.length<k) (hk2:J.length<k):ligatureref08_Table_Cuts.f k C J (a:Int) (b:Int)=some (cutI C J a b):=by
 unfold ligatureref08_Table_Cuts.f
 rw[class_some C J a ha hC k hk,class_some C J b hb hC k hk]
 have:=cuts_run C J (cls C a) (cls C b) hJ J.length k 0 (Z1) hk2 (Z1)
 rw[List.drop_zero]at this
 exact this
end Go.Proofs.YtkffhgiiejbnaaaGreat.Rt
namespace Go.Proofs.YtkffhgiiejbnaaaGreat.Rf
open Go.RowKit YtkffhgiiejbnaaaGreatW.PrintWords YtkffhgiiejbnaaaGreatW.PrintLast YtkffhgiiejbnaaaGreatW.PrintMore Aid Mp Hp Bn
def pcsB (C:List S165) (J:List S108) (s:ByteArray):Nat->List ByteArray
 | 0=>[]
 | n+1=>if n=0\/Rt.cutI C J (bt s ((n-1:Nat):Int)).toNat (bt s (n:Int)).toNat=true then pcsB C J s n++[s.extract n (n+1)] else (pcsB C J s n).set ((pcsB C J s n).length-1) (((pcsB C J s n).getD ((pcsB C J s n).length-1) ByteArray.empty)++s.extract n (n+1))
def ligatureref08_Table_Pieces.f (k:Nat) (C:List S165) (J:List S108) (s:ByteArray):Option (List ByteArray):=if C.length≤1000000/\J.length≤1000000/\s.size≤1000000 then some (pcsB C J s s.size) else none
theorem pcsB_len (C:List S165) (J:List S108) (s:ByteArray):∀ n,(pcsB C J s n).length≤n/\(0<n->0<(pcsB C J s n).length)
 | 0=>⟨Nat.le_refl _,fun h=>absurd h (Z1)⟩
 | n+1=>by
  obtain⟨h1,h2⟩:=pcsB_len C J s n
  unfold pcsB
  split
  ·rw[List.length_append];exact⟨Z6,fun _=>by simp⟩
  ·rename_i hc
   rw[List.length_set]
   exact⟨Z1,fun _=>h2 (Z1)⟩
theorem slice_two {P:Program} {t:TypeId} (hu:P.underlying t=some .string) (s:ByteArray) (i:Nat) (h:i+1≤s.size) (w:World) :
  (Instr.slice t (.string s) (some (.int .i64 (i:Int))) (some (.int .i64 ((i:Int)+1))) none).run P w=.ok (.string (s.extract i (i+1))) w:=by
 rw[run_slice_string_if _ _ _ _ _ _ _ hu,if_pos (Z1),if_pos (Z1)]
 congr 3
theorem pcsB_sz (C:List S165) (J:List S108) (s:ByteArray):∀ n,∀ x∈pcsB C J s n,x.size≤n
 | 0,x,h=>by cases h
 | n+1,x,h=>by
  have ih:=pcsB_sz C J s n
  have he:(s.extract n (n+1)).size≤1:=Z100
  unfold pcsB at h
  split at h
  ·rcases List.mem_append.1 h with h|h
   ·have:=ih x h;omega
   ·rw[List.mem_singleton.1 h];omega
  ·rcases List.mem_or_eq_of_mem_set h with h|h
   ·have:=ih x h;omega
   ·rw[h,ByteArray.size_append]
    have:((pcsB C J s n).getD ((pcsB C J s n).length-1) ByteArray.empty).size≤n:=by
     rw[List.getD_eq_getElem?_getD]
     cases hg:(pcsB C J s n)[(pcsB C J s n).length-1]? with
     | none=>simp
     | some y=>exact ih y (List.mem_of_getElem? hg)
    omega
theorem set_last {α:Type} (l:List α) (x y:α):(l++[x]).set l.length y=l++[y]:=by
 rw[List.set_append_right _ _ (Nat.le_refl _),Nat.sub_self]
 rfl
theorem empty_app (s:ByteArray):(⟨#[]⟩:ByteArray)++s=s:=ByteArray.empty_append
theorem cell_of {w:World} {p t i:Nat} {cs:Array Value} {v:Value} (h:w.heap[p]?=some (.cells cs t (0,0))) (hv:cs[i]?=some v):w.cell? ⟨p,i,none⟩=some v:=Z81
theorem blk_froz {W W':World} {e base:Nat} {ok:Nat->Prop} {g n cap:Nat} {l:List ByteArray} (hb:Below W.heap.size W W') (h:Kd.R Kd.string e W base ok (.slice (some ⟨g,0,none⟩) n cap) l) (hl:0<l.length) (j:Nat):W'.frozen? ⟨g,j,none⟩=false:=by
 obtain⟨g',c',e',h1,h2,cells,h3⟩:=Kd.R_form h hl
 injection e' with e'
 injection e' with e'
 injection e' with e'
 subst e'
 exact blk_frozen ((hb.block _ h2).trans h3) j
theorem cell_str {W:World} {e base:Nat} {ok:Nat->Prop} {g n cap:Nat} {l:List ByteArray} {x:ByteArray} (h:Kd.R Kd.string e W base ok (.slice (some ⟨g,0,none⟩) n cap) l) {j:Nat} (hj:l[j]?=some x):W.cell? ⟨g,j,none⟩=some (.string x)/\W.frozen? ⟨g,j,none⟩=false:=by
 have hlt:j<l.length:=(List.getElem?_eq_some_iff.1 hj).1
 have hn:=(Kd.R_reads' h).1
 obtain⟨c,h1,h2,h3,h4⟩:=Kd.R_elem h ByteArray.empty (j:Int) (Z1) (Z1)
 rw[Int.toNat_natCast,List.getD_eq_getElem?_getD,hj]at h2
 have hc:c=[.string x]:=h2
 subst hc
 have h5:=h3 0 _ rfl
 have h6:=h4 0
 simp only[Int.toNat_natCast,show Kd.string.sz=1 from rfl,Nat.mul_one,Nat.add_zero]at h5 h6
 exact⟨h5,h6⟩
theorem ligatureref08_Table_Pieces.calls (k:Nat) (A0_0:Option Addr) (c0_0:Nat) (l0_0:List S165) (A0_1:Option Addr) (c0_1:Nat) (l0_1:List S108) (a1:ByteArray) (r:List ByteArray) (w:World) (hr0_0:Kd.C k165 w A0_0 l0_0.length l0_0) (hc0_0:l0_0.length≤c0_0) (hr0_1:Kd.C k108 w A0_1 l0_1.length l0_1) (hc0_1:l0_1.length≤c0_1) (h:ligatureref08_Table_Pieces.f k l0_0 l0_1 a1=some r) :
  Calls Tryz.prog 63 #[.agg #[.slice A0_0 l0_0.length c0_0,.slice A0_1 l0_1.length c0_1],.string a1] w fun e w'=>∃ v0_:Value,e=.returned (v0_)/\Kd.R Kd.string 9 w' w.heap.size (fun _=>True) v0_ r/\Below w.heap.size w w':=by
 unfold ligatureref08_Table_Pieces.f at h
 split at h
 case isFalse=>cases h
 case isTrue hbd =>
  injection h with h
  subst h
  obtain⟨hb0,hb1,hb2⟩:=hbd
  have HB:=As.mk (below_alloc (Below.refl w.heap.size w) (.cells #[.slice A0_0 l0_0.length c0_0,.slice A0_1 l0_1.length c0_1] 36))
  have HE:=As.mk (Go.MapKept.heap_alloc w (.cells #[.slice A0_0 l0_0.length c0_0,.slice A0_1 l0_1.length c0_1] 36)).1
  have hsz:(w.alloc (.cells #[.slice A0_0 l0_0.length c0_0,.slice A0_1 l0_1.length c0_1] 36)).heap.size=w.heap.size+1:=World.size_alloc _ _
  have HSZ:=As.mk hsz
  clear hsz
  have HR0:=As.mk (Kd.C_below hr0_0 HB.out)
  have HR1:=As.mk (Kd.C_below hr0_1 HB.out)
  clear hr0_0 hr0_1
  go_enter Tryz.func63,Tryz.ntmps63
  go_wp2
  generalize (w.alloc (.cells #[.slice A0_0 l0_0.length c0_0,.slice A0_1 l0_1.length c0_1] 36))=w1 at *
  go_loopg [5,6] a1.size (fun k v5 v6 w'=>∃ (i:Nat),v6=.int .i64 (i:Int)/\i≤a1.size/\As (a1.size-i≤k)/\As (Kd.R Kd.string 9 w' w1.heap.size (fun _=>True) v5 (pcsB l0_0 l0_1 a1 i))/\As (Below w1.heap.size w1 w'))
  case atStart=>exact⟨0,rfl,Nat.zero_le _,⟨Z1⟩,⟨Kd.R_nil _ _ _ _ _⟩,⟨Below.refl _ _⟩⟩
  case round =>
   obtain⟨i,rfl,hi,HK,HO,HW⟩:=hrel
   by_cases hlt:i<a1.size
   ·obtain⟨k1,rfl⟩:∃ k1,gk=k1+1:=⟨gk-1,Z71⟩
    have hltI:(i:Int)<(a1.size:Int):=Z1
    have hsl:=slice_two (P:=Tryz.prog) Tryz.underlying9 a1 i (Z1)
    have hw1:IntKind.i64.wrap ((i:Int)+1)=(i:Int)+1:=Z189
    obtain⟨A5,c5,hv5⟩:=Kd.R_slice HO.out
    subst hv5
    have HLE:=As.mk (pcsB_len l0_0 l0_1 a1 i)
    have HEr:=As.mk ((HW.out.block _ (blk_lt HE.out)).trans HE.out)
    have HCU:=As.mk (fun(W':World) (hW':Below w1.heap.size w1 W')=>ligatureref08_Table_Cuts.calls (l0_0.length+l0_1.length+1) A0_0 c0_0 l0_0 A0_1 c0_1 l0_1 (bt a1 ((i:Int)-1)) (bt a1 (i:Int)) (Rt.cutI l0_0 l0_1 (bt a1 ((i:Int)-1)).toNat (bt a1 (i:Int)).toNat) W' (Kd.C_below HR0.out hW') hc0_0 (Kd.C_below HR1.out hW') hc0_1 (by
     have h1:=bt_range a1 ((i:Int)-1)
     have h2:=bt_range a1 (i:Int)
     have h:=Rt.cuts_some l0_0 l0_1 (bt a1 ((i:Int)-1)).toNat (bt a1 (i:Int)).toNat (Z1) (Z1) hb0 hb1 (l0_0.length+l0_1.length+1) (Z1) (Z1)
     rw[Int.toNat_of_nonneg h1.1,Int.toNat_of_nonneg h2.1]at h
     exact h))
    by_cases h0:i=0
    ·have hd0:((i:Int)==0)=true:=by simp[h0]
     have HPS:=As.mk (show pcsB l0_0 l0_1 a1 (i+1)=pcsB l0_0 l0_1 a1 i++[a1.extract i (i+1)] by conv=>lhs;unfold pcsB;rw[if_pos (.inl h0)])
     clear h0
     go_wp2_with fail
     refine start_ (n:=13) (S:=fun w'=>Below wr.heap.size wr w') (ds:=[]) #[false,false,false,false,false,false,false,false,false,false,false,false,false] (Z16) rfl rfl (below_drew1 (Below.refl _ _)) (fun hHeld=>?_)
     have HD5:=As.mk (below_drew1 (Below.refl wr.heap.size wr));clear hHeld;generalize wr.drew=w5 at HD5 ⊢;have hHeld:=HD5.out
     refine pI 0 (some 13) (bs 13 1) ?_
     refine pI 1 (some 14) (bs 13 3) ?_
     refine pI 2 (some 15) (bs 13 7) ?_
     refine pO 3 (some 16) (bs 13 15) ?_
     refine pO 4 (some 17) (bs 13 31) ?_
     refine pO 5 (some 18) (bs 13 63) ?_
     refine pO 6 (some 19) (bs 13 127) ?_
     refine pO 7 (some 20) (bs 13 255) ?_
     refine pO 8 (some 21) (bs 13 511) ?_
     refine pO 9 (some 22) (bs 13 1023) ?_
     refine pO 10 (some 23) (bs 13 2047) ?_
     refine pO 11 (some 24) (bs 13 4095) ?_
     refine pI 12 (some 25) (bs 13 8191) ?_
     refine done_ (Z16) ?_
     go_wp2_with ((with_reducible refine gate_builtin (b:=.append) (xs:=#[.tmp 26,.tmp 27]) rfl ?_);at_builtin;refine Kd.R_append Kd.string (w0:=w1) w1.heap.size rfl (.tmp 26) (.tmp 27) 31 9 (.string ⟨#[]⟩) 16 rfl Tryz.underlying31 info9 rfl (Z32) (Z1) (.slice A5 (pcsB l0_0 l0_1 a1 i).length c5) (pcsB l0_0 l0_1 a1 i) ⟨#[]⟩ [.string ⟨#[]⟩] (fun _=>True) (fun _=>False) rfl ?aX ?aP (fun _ hk=>hk.elim) ?aF ?aO ?aB ?aS ?aL ?_)
     case aX=>first|exact rfl|(simp[Act.eval,go_sem];done)
     case aP=>exact rfl
     case aF=>exact(fun _ _=>trivial)
     case aO=>first|exact Kd.R_below HO.out HD5.out|exact(Kd.R_below (Kd.R_below HO.out HD5.out) (below_alloc (Below.refl _ _) _))|exact(Kd.R_below (Kd.R_below HO.out HD5.out) (below_drew1 (below_alloc (Below.refl _ _) _)))
     case aB=>first|exact bt_ HW.out HD5.out|exact(below_alloc (bt_ HW.out HD5.out) _)|exact(below_drew1 (below_alloc (bt_ HW.out HD5.out) _))
     case aS=>first|exact below_size (bt_ HW.out HD5.out)|exact(below_size (below_alloc (bt_ HW.out HD5.out) _))|exact(below_size (below_drew1 (below_alloc (bt_ HW.out HD5.out) _)))
     case aL=>have:=HLE.out.1;omega
     intro v7 w7 ho hb hg hat
     have HO7:=As.mk ho
     have HW7:=As.mk hb
     obtain⟨g,cap,hv7,hbg,hlg,_⟩:=Kd.R_form HO7.out (by simp)
     rw[List.length_append,List.length_cons,List.length_nil,Nat.zero_add]at hv7
     subst hv7
     have hE7:=(HW7.out.block _ (blk_lt HE.out)).trans HE.out
     clear ho hb hg hat
     have HL7:=As.mk (show (pcsB l0_0 l0_1 a1 i++[(⟨#[]⟩:ByteArray)])[(pcsB l0_0 l0_1 a1 i).length]?=some ⟨#[]⟩ by simp)
     have HT7:=As.mk ((set_last (pcsB l0_0 l0_1 a1 i) (⟨#[]⟩:ByteArray) ((⟨#[]⟩:ByteArray)++a1.extract i (i+1))).trans (by rw[empty_app,←HPS.out]))
     have hLL:=HLE.out.1
     generalize pcsB l0_0 l0_1 a1 i++[(⟨#[]⟩:ByteArray)]=L7 at *
     generalize (pcsB l0_0 l0_1 a1 i).length=n at *
     go_wp2_with fail
     have HCL:=As.mk (cell_str HO7.out HL7.out)
     have HFR:=As.mk (fun(W':World) (hW':Below w7.heap.size w7 W')=>blk_froz hW' HO7.out (List.length_pos_of_mem (List.mem_of_getElem? HL7.out)) n)
     have hs1:IntKind.i64.wrap (((n+1:Nat):Int)-1)=(n:Int):=Z190
     have hs2:IntKind.i64.wrap ((n:Int)+1-1)=(n:Int):=Z190
     have hcat:¬ 9223372036854775807<min (i+1) a1.size-i:=Z1
     have hs3:wrap64 (n:Int)=(n:Int):=w64 (Z1) (Z1)
     have hn1:(n:Int)<((n+1:Nat):Int):=Z1
     have hn2:(n:Int)<(n:Int)+1:=Z1
     go_wp2_with fail
     refine start_ (n:=18) (S:=fun w'=>Below w7.heap.size w7 w') (ds:=[17]) #[false,false,false,false,false,false,false,false,false,false,false,false,false,false,false,false,false,false] (Z16) rfl rfl (below_drew1 (Below.refl _ _)) (fun hHeld=>?_)
     have HD7:=As.mk (below_drew1 (Below.refl w7.heap.size w7));clear hHeld;generalize w7.drew=w9 at HD7 ⊢;have hHeld:=HD7.out
     refine pI 0 (some 29) (bs 18 1) ?_
     refine pI 1 (some 30) (bs 18 3) ?_
     refine pI 2 (some 31) (bs 18 7) ?_
     refine pI 3 (some 32) (bs 18 15) ?_
     refine pI 4 (some 33) (bs 18 31) ?_
     refine pI 5 (some 34) (bs 18 63) ?_
     refine pI 6 (some 35) (bs 18 127) ?_
     refine pI 7 (some 36) (bs 18 255) ?_
     refine pI 8 (some 37) (bs 18 511) ?_
     refine pI 10 (some 39) (bs 18 1535) ?_
     refine pI 11 (some 40) (bs 18 3583) ?_
     refine pI 12 (some 41) (bs 18 7679) ?_
     refine pI 13 (some 42) (bs 18 15871) ?_
     refine pI 14 (some 43) (bs 18 32255) ?_
     refine tI 9 (some 38) (bs 18 32767) rfl (Z152) hHeld ?_
     refine pI 15 (some 44) (bs 18 65535) ?_
     refine pI 16 (some 45) (bs 18 131071) ?_
     refine last_ (i:=17) (N:=none) (bs 18 262143) rfl rfl (Z16) (Z32) (fun K hK=>?_)
     have z:=pw_cell_below HD7.out HCL.out.1
     have z2:w9.frozen? ⟨g,n,none⟩=false:=HFR.out _ HD7.out
     refine skip_ (w1:=w9.setCell ⟨g,n,none⟩ (.string ((⟨#[]⟩:ByteArray)++a1.extract i (i+1)))) (by rfl) rfl ?_ ?_
     ·first|(go_simp;done)|(go_simp;rfl)
     refine hK.out _ _ ?_
     clear hK K
     refine done_ (Z16) ?_
     have hOF:=Kd.R_putn (Kd.R_below HO7.out HD7.out) (n:Int) ((⟨#[]⟩:ByteArray)++a1.extract i (i+1))
     rw[Int.toNat_natCast,HT7.out]at hOF
     have HOF:=As.mk hOF
     have HWF:=As.mk ((bt_ HW7.out HD7.out).setCell (p:=⟨g,n,none⟩) hbg (.string ((⟨#[]⟩:ByteArray)++a1.extract i (i+1))))
     clear hOF HO7 HT7 HL7 HCL HFR
     go_wp2
     go_roundg k1
     case measure=>omega
     case rel=>exact⟨i+1,Z73,Z1,⟨Z71⟩,HOF,HWF⟩
    ·have hd0:((i:Int)==0)=false:=by simp;omega
     have hi1:(0:Int)≤(i:Int)-1:=Z1
     have hi2:(i:Int)-1<(a1.size:Int):=Z1
     have hwm:IntKind.i64.wrap ((i:Int)-1)=(i:Int)-1:=Z189
     have hi3:(1:Int)≤(i:Int):=Z1
     have hbi:=bt_at a1 i
     have hbm:=bt_at a1 ((i-1:Nat):Int)
     rw[show ((i-1:Nat):Int)=(i:Int)-1 from Z1]at hbm
     rw[show ((i:Int)-1).toNat=i-1 from Z1]at hbm
     simp only[Int.toNat_natCast]at hbi
     have hbr:=bt_range a1 (i:Int)
     have hbrm:=bt_range a1 ((i:Int)-1)
     have HPS:=As.mk (show pcsB l0_0 l0_1 a1 (i+1)=if Rt.cutI l0_0 l0_1 (bt a1 ((i:Int)-1)).toNat (bt a1 (i:Int)).toNat=true then pcsB l0_0 l0_1 a1 i++[a1.extract i (i+1)] else (pcsB l0_0 l0_1 a1 i).set ((pcsB l0_0 l0_1 a1 i).length-1) (((pcsB l0_0 l0_1 a1 i).getD ((pcsB l0_0 l0_1 a1 i).length-1) ByteArray.empty)++a1.extract i (i+1)) by
      have e:((i-1:Nat):Int)=(i:Int)-1:=Z1
      conv=>lhs;unfold pcsB
      rw[e]
      by_cases hc:Rt.cutI l0_0 l0_1 (bt a1 ((i:Int)-1)).toNat (bt a1 (i:Int)).toNat=true
      ·rw[if_pos (.inr hc),if_pos hc]
      ·rw[if_neg (fun h=>h.elim h0 hc),if_neg hc])
     have HLP:=As.mk (HLE.out.2 (Z1))
     clear h0
     generalize Rt.cutI l0_0 l0_1 (bt a1 ((i:Int)-1)).toNat (bt a1 (i:Int)).toNat=cb at *
     go_wp2_with fail
     refine start_ (n:=13) (S:=fun w'=>Below wr.heap.size wr w') (ds:=[]) #[false,false,false,false,false,false,false,false,false,false,false,false,false] (Z16) rfl rfl (below_drew1 (Below.refl _ _)) (fun hHeld=>?_)
     have HD5:=As.mk (below_drew1 (Below.refl wr.heap.size wr));clear hHeld;generalize wr.drew=w5 at HD5 ⊢;have hHeld:=HD5.out
     refine pI 0 (some 13) (bs 13 1) ?_
     refine pI 1 (some 14) (bs 13 3) ?_
     refine pI 2 (some 15) (bs 13 7) ?_
     refine pI 4 (some 17) (bs 13 23) ?_
     refine pI 5 (some 18) (bs 13 55) ?_
     refine pI 6 (some 19) (bs 13 119) ?_
     refine pI 7 (some 20) (bs 13 247) ?_
     refine pI 8 (some 21) (bs 13 503) ?_
     refine pI 9 (some 22) (bs 13 1015) ?_
     refine pI 10 (some 23) (bs 13 2039) ?_
     refine tI 3 (some 16) (bs 13 2047) rfl (by intro w' hS';have s0:=hS';have hb:=(hS'.block _ (blk_lt HEr.out)).trans HEr.out;have e0:=cell_of (i:=0) hb rfl;have e1:=cell_of (i:=1) hb rfl;go_simp;with_reducible rfl) hHeld ?_
     refine one_ (i:=11) (N:=some 24) (bs 13 4095) rfl rfl (Z16) (Z32) (fun K hK=>?_)
     refine goes_ Tryz.func19 (Z16) rfl #[.agg #[.slice A0_0 l0_0.length c0_0,.slice A0_1 l0_1.length c0_1],.int .u8 (bt a1 ((i:Int)-1)),.int .u8 (bt a1 (i:Int))] (by rfl) rfl rfl (Z110) ?_
     refine(HCU.out w5 (HW.out.trans (HD5.out.mono HW.out.size))).mono ?_
     rintro e w6 ⟨rfl,hb6⟩
     have HD6:=As.mk (bt_ HD5.out hb6)
     clear hb6
     refine⟨_,rfl,?_⟩
     refine hK.out _ _ HD6.out (fun _=>?_)
     clear hK K hHeld
     refine nI ?_
     refine pI 12 (some 25) (bs 13 8191) ?_
     refine done_ (Z16) ?_
     cases cb with
     | true =>
     have HPS2:=As.mk (HPS.out.trans (if_pos rfl))
     clear HPS
     have HPS:=HPS2
     clear HPS2
     go_wp2_with ((with_reducible refine gate_builtin (b:=.append) (xs:=#[.tmp 26,.tmp 27]) rfl ?_);at_builtin;refine Kd.R_append Kd.string (w0:=w1) w1.heap.size rfl (.tmp 26) (.tmp 27) 31 9 (.string ⟨#[]⟩) 16 rfl Tryz.underlying31 info9 rfl (Z32) (Z1) (.slice A5 (pcsB l0_0 l0_1 a1 i).length c5) (pcsB l0_0 l0_1 a1 i) ⟨#[]⟩ [.string ⟨#[]⟩] (fun _=>True) (fun _=>False) rfl ?aX ?aP (fun _ hk=>hk.elim) ?aF ?aO ?aB ?aS ?aL ?_)
     case aX=>first|exact rfl|(simp[Act.eval,go_sem];done)
     case aP=>exact rfl
     case aF=>exact(fun _ _=>trivial)
     case aO=>first|exact Kd.R_below HO.out HD6.out|exact(Kd.R_below (Kd.R_below HO.out HD6.out) (below_alloc (Below.refl _ _) _))|exact(Kd.R_below (Kd.R_below HO.out HD6.out) (below_drew1 (below_alloc (Below.refl _ _) _)))
     case aB=>first|exact bt_ HW.out HD6.out|exact(below_alloc (bt_ HW.out HD6.out) _)|exact(below_drew1 (below_alloc (bt_ HW.out HD6.out) _))
     case aS=>first|exact below_size (bt_ HW.out HD6.out)|exact(below_size (below_alloc (bt_ HW.out HD6.out) _))|exact(below_size (below_drew1 (below_alloc (bt_ HW.out HD6.out) _)))
     case aL=>have:=HLE.out.1;omega
     intro v7 w7 ho hb hg hat
     have HO7:=As.mk ho
     have HW7:=As.mk hb
     obtain⟨g,cap,hv7,hbg,hlg,_⟩:=Kd.R_form HO7.out (by simp)
     rw[List.length_append,List.length_cons,List.length_nil,Nat.zero_add]at hv7
     subst hv7
     have hE7:=(HW7.out.block _ (blk_lt HE.out)).trans HE.out
     clear ho hb hg hat
     have HL7:=As.mk (show (pcsB l0_0 l0_1 a1 i++[(⟨#[]⟩:ByteArray)])[(pcsB l0_0 l0_1 a1 i).length]?=some ⟨#[]⟩ by simp)
     have HT7:=As.mk ((set_last (pcsB l0_0 l0_1 a1 i) (⟨#[]⟩:ByteArray) ((⟨#[]⟩:ByteArray)++a1.extract i (i+1))).trans (by rw[empty_app,←HPS.out]))
     have hLL:=HLE.out.1
     generalize pcsB l0_0 l0_1 a1 i++[(⟨#[]⟩:ByteArray)]=L7 at *
     generalize (pcsB l0_0 l0_1 a1 i).length=n at *
     go_wp2_with fail
     have HCL:=As.mk (cell_str HO7.out HL7.out)
     have HFR:=As.mk (fun(W':World) (hW':Below w7.heap.size w7 W')=>blk_froz hW' HO7.out (List.length_pos_of_mem (List.mem_of_getElem? HL7.out)) n)
     have hs1:IntKind.i64.wrap (((n+1:Nat):Int)-1)=(n:Int):=Z190
     have hs2:IntKind.i64.wrap ((n:Int)+1-1)=(n:Int):=Z190
     have hcat:¬ 9223372036854775807<min (i+1) a1.size-i:=Z1
     have hs3:wrap64 (n:Int)=(n:Int):=w64 (Z1) (Z1)
     have hn1:(n:Int)<((n+1:Nat):Int):=Z1
     have hn2:(n:Int)<(n:Int)+1:=Z1
     go_wp2_with fail
     refine start_ (n:=18) (S:=fun w'=>Below w7.heap.size w7 w') (ds:=[17]) #[false,false,false,false,false,false,false,false,false,false,false,false,false,false,false,false,false,false] (Z16) rfl rfl (below_drew1 (Below.refl _ _)) (fun hHeld=>?_)
     have HD7:=As.mk (below_drew1 (Below.refl w7.heap.size w7));clear hHeld;generalize w7.drew=w9 at HD7 ⊢;have hHeld:=HD7.out
     refine pI 0 (some 29) (bs 18 1) ?_
     refine pI 1 (some 30) (bs 18 3) ?_
     refine pI 2 (some 31) (bs 18 7) ?_
     refine pI 3 (some 32) (bs 18 15) ?_
     refine pI 4 (some 33) (bs 18 31) ?_
     refine pI 5 (some 34) (bs 18 63) ?_
     refine pI 6 (some 35) (bs 18 127) ?_
     refine pI 7 (some 36) (bs 18 255) ?_
     refine pI 8 (some 37) (bs 18 511) ?_
     refine pI 10 (some 39) (bs 18 1535) ?_
     refine pI 11 (some 40) (bs 18 3583) ?_
     refine pI 12 (some 41) (bs 18 7679) ?_
     refine pI 13 (some 42) (bs 18 15871) ?_
     refine pI 14 (some 43) (bs 18 32255) ?_
     refine tI 9 (some 38) (bs 18 32767) rfl (Z152) hHeld ?_
     refine pI 15 (some 44) (bs 18 65535) ?_
     refine pI 16 (some 45) (bs 18 131071) ?_
     refine last_ (i:=17) (N:=none) (bs 18 262143) rfl rfl (Z16) (Z32) (fun K hK=>?_)
     have z:=pw_cell_below HD7.out HCL.out.1
     have z2:w9.frozen? ⟨g,n,none⟩=false:=HFR.out _ HD7.out
     refine skip_ (w1:=w9.setCell ⟨g,n,none⟩ (.string ((⟨#[]⟩:ByteArray)++a1.extract i (i+1)))) (by rfl) rfl ?_ ?_
     ·first|(go_simp;done)|(go_simp;rfl)
     refine hK.out _ _ ?_
     clear hK K
     refine done_ (Z16) ?_
     have hOF:=Kd.R_putn (Kd.R_below HO7.out HD7.out) (n:Int) ((⟨#[]⟩:ByteArray)++a1.extract i (i+1))
     rw[Int.toNat_natCast,HT7.out]at hOF
     have HOF:=As.mk hOF
     have HWF:=As.mk ((bt_ HW7.out HD7.out).setCell (p:=⟨g,n,none⟩) hbg (.string ((⟨#[]⟩:ByteArray)++a1.extract i (i+1))))
     clear hOF HO7 HT7 HL7 HCL HFR
     go_wp2
     go_roundg k1
     case measure=>omega
     case rel=>exact⟨i+1,Z73,Z1,⟨Z71⟩,HOF,HWF⟩
     | false =>
     have HT0:=HPS.out.trans (if_neg (Z32))
     have HSX:=pcsB_sz l0_0 l0_1 a1 i
     obtain⟨n,hn⟩:∃ n,(pcsB l0_0 l0_1 a1 i).length=n+1:=⟨(pcsB l0_0 l0_1 a1 i).length-1,by have:=HLP.out;omega⟩
     obtain⟨g,cap,hv7,hbg,hlg,_⟩:=Kd.R_form HO.out HLP.out
     injection hv7 with hA _ hcap
     subst hA
     subst hcap
     have HO7:=As.mk (Kd.R_below HO.out HD6.out)
     have HW7:=As.mk (bt_ HW.out HD6.out)
     have hE7:=(HW7.out.block _ (blk_lt HE.out)).trans HE.out
     have hLL:=HLE.out.1
     have HL0:(pcsB l0_0 l0_1 a1 i)[n]?=some ((pcsB l0_0 l0_1 a1 i).getD n ByteArray.empty):=by
      rw[List.getD_eq_getElem?_getD,List.getElem?_eq_getElem (Z1)]
      rfl
     rw[hn,Nat.add_sub_cancel]at HT0
     rw[hn]at HO7 hLL
     clear HPS HO HLP HLE HEr
     rw[hn]
     generalize (pcsB l0_0 l0_1 a1 i).getD n ByteArray.empty=x at *
     have HL7:=As.mk HL0
     have HT7:=As.mk HT0.symm
     have hxs:=HSX x (List.mem_of_getElem? HL0)
     clear HSX HL0 HT0
     have hcat:¬ 9223372036854775807<x.size+(min (i+1) a1.size-i):=Z1
     have HCL:=As.mk (cell_str HO7.out HL7.out)
     have HFR:=As.mk (fun(W':World) (hW':Below w6.heap.size w6 W')=>blk_froz hW' HO7.out (List.length_pos_of_mem (List.mem_of_getElem? HL7.out)) n)
     have hs1:IntKind.i64.wrap (((n+1:Nat):Int)-1)=(n:Int):=Z190
     have hs2:IntKind.i64.wrap ((n:Int)+1-1)=(n:Int):=Z190
     have hs3:wrap64 (n:Int)=(n:Int):=w64 (Z1) (Z1)
     have hn1:(n:Int)<((n+1:Nat):Int):=Z1
     have hn2:(n:Int)<(n:Int)+1:=Z1
     go_wp2_with fail
     refine start_ (n:=18) (S:=fun w'=>Below w6.heap.size w6 w') (ds:=[17]) #[false,false,false,false,false,false,false,false,false,false,false,false,false,false,false,false,false,false] (Z16) rfl rfl (below_drew1 (Below.refl _ _)) (fun hHeld=>?_)
     have HD7:=As.mk (below_drew1 (Below.refl w6.heap.size w6));clear hHeld;generalize w6.drew=w9 at HD7 ⊢;have hHeld:=HD7.out
     refine pI 0 (some 29) (bs 18 1) ?_
     refine pI 1 (some 30) (bs 18 3) ?_
     refine pI 2 (some 31) (bs 18 7) ?_
     refine pI 3 (some 32) (bs 18 15) ?_
     refine pI 4 (some 33) (bs 18 31) ?_
     refine pI 5 (some 34) (bs 18 63) ?_
     refine pI 6 (some 35) (bs 18 127) ?_
     refine pI 7 (some 36) (bs 18 255) ?_
     refine pI 8 (some 37) (bs 18 511) ?_
     refine pI 10 (some 39) (bs 18 1535) ?_
     refine pI 11 (some 40) (bs 18 3583) ?_
     refine pI 12 (some 41) (bs 18 7679) ?_
     refine pI 13 (some 42) (bs 18 15871) ?_
     refine pI 14 (some 43) (bs 18 32255) ?_
     refine tI 9 (some 38) (bs 18 32767) rfl (Z152) hHeld ?_
     refine pI 15 (some 44) (bs 18 65535) ?_
     refine pI 16 (some 45) (bs 18 131071) ?_
     refine last_ (i:=17) (N:=none) (bs 18 262143) rfl rfl (Z16) (Z32) (fun K hK=>?_)
     have z:=pw_cell_below HD7.out HCL.out.1
     have z2:w9.frozen? ⟨g,n,none⟩=false:=HFR.out _ HD7.out
     refine skip_ (w1:=w9.setCell ⟨g,n,none⟩ (.string (x++a1.extract i (i+1)))) (by rfl) rfl ?_ ?_
     ·first|(go_simp;done)|(go_simp;rfl)
     refine hK.out _ _ ?_
     clear hK K
     refine done_ (Z16) ?_
     have hOF:=Kd.R_putn (Kd.R_below HO7.out HD7.out) (n:Int) (x++a1.extract i (i+1))
     rw[Int.toNat_natCast,HT7.out]at hOF
     have HOF:=As.mk hOF
     have HWF:=As.mk ((bt_ HW7.out HD7.out).setCell (p:=⟨g,n,none⟩) hbg (.string (x++a1.extract i (i+1))))
     clear hOF HO7 HT7 HL7 HCL HFR
     go_wp2
     go_roundg k1
     case measure=>omega
     case rel=>exact⟨i+1,Z73,Z1,⟨Z71⟩,HOF,HWF⟩
   ·obtain rfl:i=a1.size:=by omega
    go_wp2
    go_ret
    exact⟨_,rfl,Kd.R_lower HO.out (by have:=HSZ.out;omega),HB.out.trans (HW.out.mono HB.out.size)⟩
end Go.Proofs.YtkffhgiiejbnaaaGreat.Rf
