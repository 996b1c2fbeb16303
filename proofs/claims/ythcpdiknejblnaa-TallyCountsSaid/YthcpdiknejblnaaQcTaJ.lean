import Derived.Lib.SliceRun
import Derived.Test.YthcpdiknejblnaaQcTaI
import Derived.Test.YthcpdiknejblnaaQcTaQ
set_option maxRecDepth 100000
set_option maxHeartbeats 1000000
set_option linter.unusedVariables false
set_option linter.unusedSimpArgs false
namespace Go.Proofs.Ythcpdiknejblnaa.Ta
open Go Go.MapKept Go.RowKit Go.ChangeMaps Go.Sort Go.Lib Mp YthcpdiknejblnaaW.PrintWords YthcpdiknejblnaaW.PrintLast YthcpdiknejblnaaW.PrintMore Rf Aid Hp
theorem idx_none (A:Option Addr) (c:Nat) (f:Value) (w:World):Calls Try.prog 43 #[.slice A 0 c,f] w fun e w'=>e=.returned (.int .i64 (-1))/\w=w':=by
 go_enter Try.func43,Try.ntmps43
 go_wp2
 go_loopg [8] 0 (fun k v8 W=>v8=.int .i64 0/\As (w=W))
 case atStart=>exact⟨rfl,⟨rfl⟩⟩
 case round =>
  obtain⟨rfl,HW⟩:=hrel
  obtain rfl:=HW.out
  clear HW
  go_wp2
  go_ret
  exact⟨rfl,rfl⟩
theorem del_none (A:Option Addr) (c:Nat) (f:Value) (w:World):Calls Try.prog 35 #[.slice A 0 c,f] w fun e w'=>e=.returned (.slice A 0 c)/\w=w':=by
 go_enter Try.func35,Try.ntmps35
 go_wp2_with (go_at_call 43;refine(idx_none A c f _).mono ?_;rintro e w1 ⟨rfl,rfl⟩)
 go_ret
 exact⟨rfl,rfl⟩
theorem never_clo {B:Nat} {t:Value} {p:Int->Bool} {W:World} (hb:W.cell? ⟨B,0,none⟩=some t) (x:Int) (hc:Calls Try.prog 17 #[t,.int .i64 x] W fun e w'=>(∃ n:Int,e=.returned (.int .i64 n)/\p x=decide (0<n))/\W=w') :
  FnGives Try.prog 37 #[.pointer (some ⟨B,0,none⟩)] #[.int .i64 x] (.bool (p x)) W:=by
 show Calls Try.prog 37 #[.int .i64 x,.pointer (some ⟨B,0,none⟩)] W _
 have HC:=As.mk hc
 clear hc
 go_enter Try.func37,Try.ntmps37
 go_wp2_with (go_at_call 17;refine HC.out.mono ?_;rintro e w1 ⟨⟨n,rfl,hp⟩,rfl⟩;have HP:=As.mk hp;clear hp)
 go_ret
 exact⟨by rw[HP.out];rfl,0,rfl⟩
theorem sort_block {α:Type} [Inhabited α] (enc:α->Value) (w:World) (blk off m:Nat) (d:Array α) (os:Array Obj) {k:Nat} (hk:k<w.heap.size) (hne:k≠blk):(sortWorld enc w blk off m d os).heap[k]?=w.heap[k]?:=by
 unfold sortWorld grow
 show (_++os:Array Obj)[k]?=_
 have h6:(putRow enc (Sort.ahead w m) blk off d).heap[k]?=w.heap[k]?:=by
  simp only[putRow,mapBlock,Array.getElem?_modify]
  rw[if_neg (Ne.symm hne)]
  rfl
 rw[Array.getElem?_append_left (by simp[putRow,mapBlock,Sort.ahead];exact hk)]
 exact h6
theorem R_put {w:World} {base g n c:Nat} {ok:Nat->Prop} {l ys:List Int} (h:Kd.R (Kd.int .i64) 3 w base ok (.slice (some ⟨g,0,none⟩) n c) l) (hl:ys.length=l.length) {m:Nat} (hm:m≤ys.length) (q:Nat) :
  Kd.R (Kd.int .i64) 3 (putRow (Value.int .i64) (Sort.ahead w q) g 0 ys.toArray) base ok (.slice (some ⟨g,0,none⟩) m c) (ys.take m)/\Out g (g+1) w (putRow (Value.int .i64) (Sort.ahead w q) g 0 ys.toArray):=by
 have h0:=h.1
 have ho:=Kd.own_of_R h
 obtain⟨h1,h2⟩:=ho
 rcases h2 with⟨h2,_⟩|⟨g',cap,cur,h2,hb,hh,hn,hc,hs,ht⟩
 ·cases h2
 injection h2 with h2 h3 h4
 injection h2 with h2
 injection h2 with h2 _ _
 subst h2
 subst h3
 subst h4
 rw[Nat.mul_one]at hs ht
 have hglt:g<w.heap.size:=(Array.getElem?_eq_some_iff.1 hh).1
 obtain⟨cur',hcur⟩:∃ cur',cur'=putCells (Value.int .i64) 0 ys.toArray cur:=⟨_,rfl⟩
 have hsz:cur'.size=cur.size:=by rw[hcur];simp[putCells]
 have hblk:(putRow (Value.int .i64) (Sort.ahead w q) g 0 ys.toArray).heap[g]?=some (.cells cur' 3 (0,0)):=by
  have hh':(Sort.ahead w q).heap[g]?=some (.cells cur 3 (0,0)):=hh
  simp only[putRow,mapBlock,Array.getElem?_modify,if_true,hh',Option.map_some,onCells,hcur]
 have hyc:ys.length≤cur.size:=by rw[hl,hs];exact hn
 have htk:cur'.toList.take m=encs (Value.int .i64) (ys.take m):=by
  apply List.ext_getElem?
  intro t
  rcases Nat.lt_or_ge t m with htl|htl
  ·rw[List.getElem?_take_of_lt htl,Array.getElem?_toList,hcur]
   simp only[putCells,Array.getElem?_mapIdx]
   rw[Array.getElem?_eq_getElem (Z0),Option.map_some,if_pos ⟨Nat.zero_le _,Z2⟩,Nat.sub_zero]
   unfold encs
   rw[List.getElem?_map,List.getElem?_take_of_lt htl,List.getElem?_eq_getElem (Z0),Option.map_some]
   simp[show t<ys.length from Z0]
  ·rw[List.getElem?_eq_none (Z3),List.getElem?_eq_none (by unfold encs;rw[List.length_map,List.length_take];omega)]
 have hml:(ys.take m).length=m:=Z3
 refine⟨Kd.R_of_own (ok:=ok) ⟨by unfold encs;rw[List.length_map,Nat.mul_one],.inr ⟨g,c,cur',by rw[hml],hb,hblk,by rw[hml];omega,hc,by rw[hsz,hs,Nat.mul_one],by rw[hml,Nat.mul_one];exact htk⟩⟩ (fun k hk=>h0 k hk),rfl,rfl,rfl,by simp[putRow,mapBlock,Sort.ahead],fun k hk' hok=>?_⟩
 simp only[putRow,mapBlock,Array.getElem?_modify]
 rw[if_neg (show g≠k from Z0)]
 rfl
theorem never_any {pt:Option Addr} {p:Int->Bool} {w:World} {A:Option Addr} {c:Nat} {l:List Int} (hr:Kd.C (Kd.int .i64) w A l.length l) (hl:l.length≤1000)
  (hask:∀ W:World,(∀ k,k<w.heap.size->W.heap[k]?=w.heap[k]?)->∀ x,Calls Try.prog 17 #[.pointer pt,.int .i64 x] W fun e w'=>(∃ n:Int,e=.returned (.int .i64 n)/\p x=decide (0<n))/\W=w') :
  Calls Try.prog 20 #[.pointer pt,.slice A l.length c] w fun e w'=>∃ v,e=.returned v/\Kd.R (Kd.int .i64) 3 w' w.heap.size (fun _=>True) v (l.filter (fun x=>!p x))/\Below w.heap.size w w':=by
 have hB1:=below_alloc (Below.refl w.heap.size w) (.cells #[.pointer pt] 25)
 have hbx:(w.alloc (.cells #[.pointer pt] 25)).heap[w.heap.size]?=some (.cells #[.pointer pt] 25):=(heap_alloc w _).1
 have HCL:=As.mk (clone_row A c l (w.alloc (.cells #[.pointer pt] 25)) (Kd.C_below hr hB1) (Z0))
 have HB1:=As.mk hB1
 have HBX:=As.mk hbx
 have HASK:=As.mk hask
 have hz:(w.alloc (.cells #[.pointer pt] 25)).heap.size=w.heap.size+1:=by simp
 have HZ:=As.mk hz
 clear hr hB1 hbx hask hz
 go_enter Try.func20,Try.ntmps20
 go_wp2_with (go_at_call 36;refine HCL.out.mono ?_;rintro e w2 ⟨v2,rfl,ho,hb⟩;have HO2:=As.mk ho;have HB2:=As.mk hb;clear ho hb)
 have hbx2:w2.heap[w.heap.size]?=some (.cells #[.pointer pt] 25):=(HB2.out.block _ (lt_of HBX.out)).trans HBX.out
 have HPR:=As.mk (fun(W:World) (hW:∀ k,k≤w.heap.size->W.heap[k]?=w2.heap[k]?) (x:Int)=>(show FnGives Try.prog 37 #[.pointer (some ⟨w.heap.size,0,none⟩)] #[.int .i64 x] (.bool (p x)) W from never_clo (cell_of ((hW _ (Nat.le_refl _)).trans hbx2) rfl) x (HASK.out W (fun k hk=>(hW k (Z0)).trans ((HB2.out.block k (Z18)).trans (HB1.out.block k hk))) x)))
 have HBB:=As.mk (HB1.out.trans (HB2.out.mono HB1.out.size))
 have HO:=As.mk (Kd.R_lower (base':=w.heap.size) HO2.out HB1.out.size)
 cases l with
 | nil =>
  obtain⟨A2,c2,rfl⟩:=Kd.R_slice HO2.out
  clear hbx2
  go_wp2_with (go_at_call 35;refine(del_none A2 c2 _ _).mono ?_;rintro e w3 ⟨rfl,rfl⟩)
  go_ret
  exact⟨_,rfl,HO.out,HBB.out⟩
 | cons a r =>
  obtain⟨g,c2,rfl,hg1,hg2,cells,hcg⟩:=Kd.R_form HO2.out (by simp)
  have HG:=As.mk (And.intro hg1 hg2)
  have hle:=(Kd.R_reads' HO2.out).2.1
  have hC:=(Kd.R_reads' HO2.out).2.2
  have hH:Holds (Value.int .i64) w2 g 0 (a::r).toArray:=fun j hj=>by
   have hjl:j<(a::r).length:=by simpa using hj
   obtain⟨ad,e,hx⟩:=rd_at hC (List.getElem?_eq_getElem hjl)
   injection e with e
   subst e
   refine⟨?_,by simp[World.frozen?,hcg]⟩
   have e2:(⟨g,0,none⟩:Addr).add j=⟨g,0+j,none⟩:=by unfold Addr.add;split <;> simp_all
   rw[e2]at hx
   rw[hx]
   congr 2
   simp only[List.getElem!_toArray]
   rw[List.getElem!_eq_getElem?_getD,List.getElem?_eq_getElem hjl]
   rfl
  have hz:w.heap.size<g:=Z18
  have hp:PredAt Try.prog 37 #[.pointer (some ⟨w.heap.size,0,none⟩)] (Value.int .i64) p w2:=fun W x hb=>HPR.out W (fun k hk=>hb.block k (Z0)) x
  have hpo:PredOver Try.prog 37 #[.pointer (some ⟨w.heap.size,0,none⟩)] (Value.int .i64) p g 0 (a::r).toArray.size w2:=fun m os dk x _=>HPR.out _ (fun k hk=>sort_block _ _ _ _ _ _ _ (Z0) (Z0)) x
  have hdel:=AnyE.slices_DeleteFunc Try.delF (Value.int .i64) (fun _=>rfl) p 37 #[.pointer (some ⟨w.heap.size,0,none⟩)] (enters_of Try.func37 (Z7) rfl) 0 Try.zeroValue3 g 0 c2 (a::r).toArray w2 hp hpo hH (by simp at hl ⊢;omega) (by simpa using hle)
  have HDEL:=As.mk (show Calls Try.prog 35 #[.slice (some ⟨g,0,none⟩) (a::r).length c2,.func (.func 37) #[] #[.pointer (some ⟨w.heap.size,0,none⟩)]] w2 _ from hdel)
  clear hdel hp hpo hH hC hle hcg hbx2 hg1 hg2
  obtain⟨F,hF⟩:∃ F,F=(a::r).filter (fun x=>!p x):=⟨_,rfl⟩
  have hFL:F.length≤(a::r).length:=by rw[hF];exact List.length_filter_le _ _
  rw[show (a::r).toArray.toList.filter (fun x=>!p x)=F by rw[hF]]at HDEL
  have HFF:=As.mk hF
  have HFL:=As.mk hFL
  clear hF hFL
  generalize hAR:a::r=l at *
  have HAR:=As.mk hAR
  clear hAR
  go_wp2_with (go_at_call 35;go_loud (refine HDEL.out.mono ?_;rintro e w3 ⟨rfl,q,hw3⟩;have HP3:=As.mk (R_put HO.out (ys:=F++List.replicate (l.toArray.size-F.length) 0) (by rw[List.length_append,List.length_replicate,List.size_toArray];have:=HFL.out;omega) (m:=F.length) (by rw[List.length_append];omega) q);rw[←hw3,List.take_left]at HP3;clear hw3))
  go_ret
  exact⟨_,rfl,by have h:=HP3.out.1;rw[HFF.out]at h;rw[HAR.out,HFF.out];exact h,HBB.out.trans ((HP3.out.2.below (Nat.le_of_lt HG.out.2)).mono (Nat.le_of_lt hz))⟩
end Go.Proofs.Ythcpdiknejblnaa.Ta
