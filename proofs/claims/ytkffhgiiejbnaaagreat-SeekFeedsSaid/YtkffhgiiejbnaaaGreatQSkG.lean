import Derived.Laws.Rows
import Derived.Laws.OwnMore
import Derived.Laws.CopyRow
import Derived.Test.YtkffhgiiejbnaaaGreatQKmp
import Derived.Test.YtkffhgiiejbnaaaGreatQEncF
import Derived.Test.YtkffhgiiejbnaaaGreatQ02
import Derived.Test.YtkffhgiiejbnaaaGreatQRngB
import Derived.Test.YtkffhgiiejbnaaaGreatQChainK
import Derived.Test.YtkffhgiiejbnaaaGreatQEncA
import Derived.Test.YtkffhgiiejbnaaaGreatQEncI
set_option maxRecDepth 100000
set_option maxHeartbeats 4000000
set_option linter.unusedVariables false
set_option linter.unusedSimpArgs false
namespace Go.Proofs.YtkffhgiiejbnaaaGreat.Sk
open Go.Shelf Go.RowKit YtkffhgiiejbnaaaGreatW.PrintWords YtkffhgiiejbnaaaGreatW.PrintLast YtkffhgiiejbnaaaGreatW.PrintMore Rf Aid Mp Hp Vc En
def Rw (w:World) (v:Value) (xs:List Int):Prop:=Kd.R (Kd.int .i64) 3 w 0 (fun _=>True) v xs
theorem Rw.of {w:World} {b:Nat} {ok:Nat->Prop} {v:Value} {xs:List Int} (h:Kd.R (Kd.int .i64) 3 w b ok v xs):Rw w v xs:=Kd.R_lower (Kd.R_mono h (fun _ _=>trivial)) (Nat.zero_le _)
theorem Rw.below {w w':World} {v:Value} {xs:List Int} (h:Rw w v xs) (hb:Below w.heap.size w w'):Rw w' v xs:=Kd.R_below h hb
theorem Rw.form {w:World} {v:Value} {xs:List Int} (h:Rw w v xs):∃ A c,v=.slice A xs.length c:=Kd.R_slice h
theorem Rw.rd {w:World} {A:Option Addr} {n c:Nat} {xs:List Int} (h:Rw w (.slice A n c) xs):n=xs.length/\n≤c/\Kd.C (Kd.int .i64) w A xs.length xs:=Kd.R_reads' h
def bkL (p:List Int):List Int:=(List.range (p.length+1)).map (fun j=>((bk p j:Nat):Int))
def bkI (p:List Int) (i:Nat):List Int:=(List.range (p.length+1)).map (fun j=>if j≤i then ((bk p j:Nat):Int) else 0)
theorem bkI_len (p:List Int) (i:Nat):(bkI p i).length=p.length+1:=by simp[bkI]
theorem bkI_at {p:List Int} {i j:Nat} (hj:j≤i) (hl:j≤p.length):(bkI p i)[j]?=some ((bk p j:Nat):Int):=by
 unfold bkI
 rw[List.getElem?_map,List.getElem?_range (Z1)]
 simp[hj]
theorem bkI_all (p:List Int):bkI p p.length=bkL p:=by
 unfold bkI bkL
 refine List.map_congr_left fun j hj=>?_
 have:=List.mem_range.1 hj
 rw[if_pos (Z1)]
theorem bkI_zero (p:List Int):List.replicate (p.length+1) (0:Int)=bkI p 1:=by
 apply List.ext_getElem?
 intro j
 unfold bkI
 rw[List.getElem?_map]
 by_cases hj:j<p.length+1
 ·rw[List.getElem?_range hj,List.getElem?_replicate,if_pos hj]
  simp only[Option.map_some]
  by_cases h1:j≤1
  ·rw[if_pos h1]
   rcases Nat.eq_zero_or_pos j with h0|h0
   ·subst h0;rw[bk_zero];rfl
   ·obtain rfl:j=1:=by omega
    rw[bk_one];rfl
  ·rw[if_neg h1]
 ·rw[List.getElem?_eq_none (Z6),List.getElem?_eq_none (Z6)];rfl
theorem bkI_set {p:List Int} {i:Nat}:(bkI p i).set (i+1) ((bk p (i+1):Nat):Int)=bkI p (i+1):=by
 apply List.ext_getElem?
 intro j
 rw[List.getElem?_set]
 unfold bkI
 rw[List.getElem?_map,List.getElem?_map]
 by_cases hj:j<p.length+1
 ·rw[List.getElem?_range hj]
  simp only[Option.map_some,List.length_map,List.length_range]
  by_cases he:i+1=j
  ·subst he;rw[if_pos rfl,if_pos hj,if_pos (Nat.le_refl _)]
  ·rw[if_neg he]
   by_cases h1:j≤i
   ·rw[if_pos h1,if_pos (Z1)]
   ·rw[if_neg h1,if_neg (Z1)]
 ·rw[List.getElem?_eq_none (Z6)]
  simp only[Option.map_none,List.length_map,List.length_range]
  split
  ·rw[if_neg (Z1)]
  ·rfl
theorem step_run {p B:List Int} {n:Int} (hp:p≠[]) (hB:B.length=p.length+1) (hl:p.length≤1000) :
  ∀ (f k K:Nat),k<f->f≤K->k≤p.length->(∀ j,1≤j->j≤k->B[j]?=some ((bk p j:Nat):Int))->seek_pattern_step.l0 K (k:Int) n p B=some ((stepN p n f k:Nat):Int)
 | 0,k,K,h1,h2,h3,h4=>Z1
 | f+1,k,K,h1,h2,h3,h4=>by
  obtain⟨K,rfl⟩:∃ m,K=m+1:=⟨K-1,Z1⟩
  have hpos:=List.length_pos_iff.2 hp
  simp only[seek_pattern_step.l0,stepN]
  by_cases hk:0<k
  ·have hbk:=bk_lt hk h3
   have hkB:k<B.length:=Z1
   have hr:rd B (k:Int)=((bk p k:Nat):Int):=by
    have h:=h4 k (Z1) (Nat.le_refl _)
    rw[List.getElem?_eq_getElem hkB]at h
    rw[rdI hkB]
    injection h
   have ih:=step_run (n:=n) hp hB hl f (bk p k) K (Z1) (Z1) (Z1) (fun j a b=>h4 j a (Z1))
   rw[if_pos (Z1)]
   by_cases he:k=p.length
   ·rw[if_pos (Z1),if_pos (Z1),if_pos (Z1),hr,ih,if_pos ⟨hk,.inl he⟩]
   ·have hkp:k<p.length:=by omega
    rw[if_neg (Z1),if_pos (Z1),if_pos (Z1),rdI hkp]
    by_cases hn:p[k]=n
    ·rw[if_pos hn,if_neg (by rintro⟨_,h|h⟩;exact he h;exact h (by rw[List.getElem?_eq_getElem hkp,hn])),if_pos (by rw[List.getElem?_eq_getElem hkp,hn])]
     congr 1
     exact(w64 (Z1) (Z1)).trans (Z1)
    ·rw[if_neg hn,if_pos (Z1),hr,ih,if_pos ⟨hk,.inr (by rw[List.getElem?_eq_getElem hkp];simpa using hn)⟩]
  ·obtain rfl:k=0:=by omega
   rw[if_neg (Z1),if_pos (Z1),if_pos (Z1),rdI hpos]
   by_cases hn:p[0]=n
   ·rw[if_pos hn,if_neg (fun h=>absurd h.1 (Z1)),if_pos (by rw[List.getElem?_eq_getElem hpos,hn])]
    congr 1
    exact(w64 (Z1) (Z1)).trans (Z1)
   ·rw[if_neg hn,if_neg (fun h=>absurd h.1 (Z1)),if_neg (by rw[List.getElem?_eq_getElem hpos];simpa using hn)]
theorem step_any {p B:List Int} {n:Int} {k:Nat} (hp:p≠[]) (hB:B.length=p.length+1) (hl:p.length≤1000) (hk:k≤p.length) (hb:∀ j,1≤j->j≤k->B[j]?=some ((bk p j:Nat):Int)) {A A2:Option Addr} {c c2 m:Nat} (w:World)
  (h1:Kd.C (Kd.int .i64) w A p.length p) (hc1:p.length≤c) (h2:Kd.C (Kd.int .i64) w A2 B.length B) (hc2:B.length≤c2) (hm:m=B.length) :
  Calls Tryz.prog 101 #[.agg #[.slice A p.length c,.slice A2 m c2],.int .i64 (k:Int),.int .i64 n] w fun e w'=>e=.returned (.int .i64 ((stepN p n (p.length+1) k:Nat):Int))/\Below w.heap.size w w':=by
 subst hm
 exact seek_pattern_step.calls (p.length+1) A c p A2 c2 B (k:Int) n _ w h1 hc1 h2 hc2 (step_run hp hB hl (p.length+1) k _ (Z1) (Nat.le_refl _) hk hb)
theorem makeB (n:Nat) (h:n≤1000) (W:World):(Instr.makeSlice 41 (.int .i64 ((n:Int)+1)) (.int .i64 ((n:Int)+1))).run Tryz.prog W=.ok (.slice (some ⟨W.heap.size,0,none⟩) (n+1) (n+1)) (W.alloc (.cells (madeCells #[.int .i64 0] (n+1)) 3)) :=
 print_make 41 3 .i64 8 Tryz.underlying41 (Z15) (Z1) (n+1) (Z1) W
theorem made_list (n:Nat):(madeCells #[.int .i64 0] n).toList=List.replicate n (.int .i64 0):=by
 apply List.ext_getElem
 ·simp[madeCells]
 ·intro i h1 h2
  simp[madeCells,Nat.mod_one]
theorem zero_row (n:Nat) (h:n≤100000) (W:World):Kd.R (Kd.int .i64) 3 (W.alloc (.cells (madeCells #[.int .i64 0] n) 3)) W.heap.size (fun _=>True) (.slice (some ⟨W.heap.size,0,none⟩) n n) (List.replicate n 0):=by
 refine⟨fun _ _=>trivial,List.replicate n (.int .i64 0),?_,?_⟩
 ·rw[List.length_replicate]
  refine⟨Z143,.inr ⟨W.heap.size,n,_,rfl,Nat.le_refl _,(Go.MapKept.heap_alloc W _).1,Nat.le_refl _,by show n≤9223372036854775807;omega,by show (madeCells #[.int .i64 0] n).size=n * 1;simp[madeCells],by rw[made_list,List.take_of_length_le (Z143)]⟩⟩
 ·refine⟨Z143,fun j p hj=>?_⟩
  rw[List.getElem?_replicate]at hj
  split at hj
  ·injection hj with hj
   subst hj
   rename_i hlt
   show ((List.replicate n (Value.int .i64 0)).drop (j * 1)).take 1=_
   rw[Nat.mul_one,List.drop_replicate,List.take_replicate,show min 1 (n-j)=1 from Z1]
   rfl
  ·cases hj
end Go.Proofs.YtkffhgiiejbnaaaGreat.Sk
namespace Go.Proofs.YtkffhgiiejbnaaaGreat.Sk
open Go.Shelf Go.RowKit YtkffhgiiejbnaaaGreatW.PrintWords YtkffhgiiejbnaaaGreatW.PrintLast YtkffhgiiejbnaaaGreatW.PrintMore Rf Aid Mp Hp Vc En
theorem own_ne {W:World} {base g n c b t:Nat} {ok:Nat->Prop} {xs:List Int} {cs:Array Value} (h:Kd.R (Kd.int .i64) 3 W base ok (.slice (some ⟨g,0,none⟩) n c) xs) (hb:W.heap[b]?=some (.cells cs t (0,0))) (ht:t≠3):b≠g:=by
 rintro rfl
 obtain⟨_,_,_,q,hq,cells,hc⟩:=(Kd.R_bound h).1 b rfl
 rw[hb]at hc
 injection hc with hc
 injection hc with _ ht' _
 exact ht (ht'.trans (by simpa[show (Kd.int .i64).E=[] from rfl] using hq))
theorem own_froz {W:World} {base g n c:Nat} {ok:Nat->Prop} {xs:List Int} (h:Kd.R (Kd.int .i64) 3 W base ok (.slice (some ⟨g,0,none⟩) n c) xs) (j:Nat):W.frozen? ⟨g,j,none⟩=false:=by
 obtain⟨_,_,_,q,hq,cells,hc⟩:=(Kd.R_bound h).1 g rfl
 exact blk_frozen hc j
theorem own_cell {W:World} {base g n c:Nat} {ok:Nat->Prop} {xs:List Int} (h:Kd.R (Kd.int .i64) 3 W base ok (.slice (some ⟨g,0,none⟩) n c) xs) {j:Nat} {x:Int} (hx:xs[j]?=some x):W.cell? ⟨g,j,none⟩=some (.int .i64 x):=by
 have h2:=rd_ad (Kd.R_reads' h).2.2 hx
 rw[show (⟨g,0,none⟩:Addr).add j=⟨g,j,none⟩ from Z0]at h2
 exact h2
theorem R_ne {W:World} {base g:Nat} {ok:Nat->Prop} {v:Value} {xs:List Int} (h:Kd.R (Kd.int .i64) 3 W base ok v xs) (hg:g<base\/W.heap.size≤g):Kd.R (Kd.int .i64) 3 W base (fun k=>k≠g) v xs :=
 ⟨fun k hk e=>by
  have:=(Kd.R_bound h).1 k hk
  have h1:=this.2.1
  have h2:=this.2.2.1
  omega,h.2⟩
theorem cloneR (ad:Addr) (c:Nat) (l:List Int) (w:World) (hr:Kd.C (Kd.int .i64) w (some ad) l.length l) (hl:l.length≤200000000) :
  Calls Tryz.prog 58 #[.slice (some ad) l.length c] w fun e w'=>∃ A' c',e=.returned (.slice A' l.length c')/\Kd.R (Kd.int .i64) 3 w' w.heap.size (fun _=>True) (.slice A' l.length c') l/\Below w.heap.size w w':=by
 have HR:=As.mk hr
 clear hr
 have q22:∀ (w:World) (a:Option Addr) (n c n' c':Nat),(binOp .eql 41 (.slice a n c) (.slice none n' c')).run Tryz.prog w=.ok (.bool a.isNone) w:=fun w a n c n' c'=>Lib.run_eql_slice_nil w _ _ a n c n' c' Tryz.underlying41
 go_enter Tryz.func58,Tryz.ntmps58
 go_wp2_with ((with_reducible refine gate_builtin (b:=.append) (xs:=#[.tmp 5,.tmp 6]) rfl ?_);at_builtin;refine Kd.R_append_rows (Kd.int .i64) (Rr:=(Kd.int .i64).K w) (w0:=w) w.heap.size rfl (.tmp 5) (.tmp 6) 41 3 (.int .i64 0) 8 rfl Tryz.underlying41 info3 rfl (Z31) (Z1) (.slice (some ⟨w.heap.size,0,none⟩) 0 0) [] l (some ad) l.length c (fun _=>True) (fun _=>False) (by rfl) (by rfl) ?q1 ?q2 ?q3 (fun _ hk=>hk.elim) (fun _ _=>trivial) ?q4 ?q5 ?q6 ?_)
 case q1=>exact⟨fun _ _=>trivial,[],World.ownsRow_made w #[] 0 (Nat.le_refl _) (Nat.zero_le _) (by simp),Reps.none _ _⟩
 case q2=>exact HR.out.imp_ (below_alloc (Below.refl _ _) _) (fun _ _ h=>h)
 case q3=>intro x cs hk;exact hk
 case q4=>exact below_alloc (Below.refl _ _) _
 case q5=>simp
 case q6=>simp;omega
 intro v1 w1 ho hb hg hat
 obtain⟨A1,c1,rfl,hc1,hr1⟩:=Kd.R_reads ho
 have HR1:=As.mk ho
 have HB1:=As.mk hb
 clear ho hb hg hat hr1
 go_wp2
 go_ret
 exact⟨A1,c1,rfl,HR1.out,HB1.out⟩
theorem of_any {p:List Int} (hp:p≠[]) (hl:p.length≤1000) {A:Option Addr} {c:Nat} (w:World) (hr:Kd.C (Kd.int .i64) w A p.length p) :
  Calls Tryz.prog 81 #[.slice A p.length c] w fun e w'=>∃ (A':Option Addr) (c' g:Nat),e=.returned (.agg #[.slice A' p.length c',.slice (some ⟨g,0,none⟩) (p.length+1) (p.length+1)])/\Rw w' (.slice A' p.length c') p/\Rw w' (.slice (some ⟨g,0,none⟩) (p.length+1) (p.length+1)) (bkL p)/\Below w.heap.size w w':=by
 have hpos:=List.length_pos_iff.2 hp
 have HL:=As.mk hl
 have HP:=As.mk hp
 obtain⟨ad,rfl,_⟩:=rd_at hr (List.getElem?_eq_getElem hpos)
 have HR:=As.mk hr
 have hwl:wrap64 ((p.length:Int)+1)=(p.length:Int)+1:=w64 (Z1) (Z1)
 have HB2:=As.mk (below_alloc (Below.refl w.heap.size w) (.cells #[.slice none 0 0,.slice none 0 0] 116))
 have HN:=As.mk (Go.MapKept.heap_alloc w (.cells #[.slice none 0 0,.slice none 0 0] 116)).1
 clear hr hl hp
 go_enter Tryz.func81,Tryz.ntmps81
 go_wp2_with fail
 generalize w.alloc (.cells #[.slice none 0 0,.slice none 0 0] 116)=w2 at HB2 HN ⊢
 refine start_ (n:=9) (S:=fun w'=>Below w2.heap.size w2 w') (ds:=[]) #[false,false,false,false,false,false,false,false,false] (Z15) rfl rfl (below_drew1 (Below.refl _ _)) (fun hHeld=>?_)
 refine pI 0 (some 6) (bs 9 1) ?_
 refine pI 2 (some 8) (bs 9 5) ?_
 refine pI 3 (some 9) (bs 9 13) ?_
 refine pI 4 (some 10) (bs 9 29) ?_
 have hS0:=hHeld
 clear hHeld
 generalize w2.drew=V0 at hS0 ⊢
 refine join_ 1 #[true,true,true,true,true,true,true,true,false] (fun(q:Option Addr × Nat × Nat × Nat)=>[(7,.slice q.1 p.length q.2.1),(11,.slice (some ⟨q.2.2.1,0,none⟩) (p.length+1) (p.length+1)),(12,.agg #[.slice q.1 p.length q.2.1,.slice (some ⟨q.2.2.1,0,none⟩) (p.length+1) (p.length+1)]),(3,.pointer (some ⟨q.2.2.2,0,none⟩))])
  (fun q W=>Below w2.heap.size w2 W/\Kd.R (Kd.int .i64) 3 W w2.heap.size (fun k=>k≠q.2.2.1) (.slice q.1 p.length q.2.1) p/\Kd.R (Kd.int .i64) 3 W w2.heap.size (fun _=>True) (.slice (some ⟨q.2.2.1,0,none⟩) (p.length+1) (p.length+1)) (List.replicate (p.length+1) 0)/\W.heap[q.2.2.2]?=some (.cells #[.slice none 0 0,.slice none 0 0] 116 (0,0))/\w2.heap.size≤q.2.2.1/\w2.heap.size≤q.2.2.2) ?_ ?_
 rotate_left
 ·intro hcont
  refine three_ (i:=1) (j:=5) (k:=7) (Ni:=some 7) (Nj:=some 11) (Nk:=some 3) #[true,true,true,true,true,false,false,false,false] #[true,false,true,true,true,true,false,false,false] #[true,false,true,true,true,false,false,true,false] rfl rfl rfl rfl rfl rfl (Z15) (Z31) (Z31) (Z31) (fun K hK=>?_) (fun K hK=>?_) (fun K hK=>?_)
  ·refine goes_ Tryz.func58 (Z15) rfl #[.slice (some ad) p.length c] (by rfl) rfl rfl (Z101) ?_
   refine(cloneR ad c p V0 (Kd.C_below HR.out (HB2.out.trans (hS0.mono HB2.out.size))) (Z126)).mono ?_
   rintro e V1 ⟨A',c',rfl,ho,hb1⟩
   refine⟨_,rfl,?_⟩
   have hS1:=bt_ hS0 hb1
   refine hK.out _ _ hS1 (fun _=>?_)
   clear hK K
   refine nI ?_
   refine two_ (i:=5) (j:=7) (Ni:=some 11) (Nj:=some 3) #[true,true,true,true,true,true,false,false,false] #[true,true,true,true,true,false,false,true,false] rfl rfl rfl rfl (Z15) (Z31) (Z31) (fun K hK=>?_) (fun K hK=>?_)
   ·have hm:=makeB p.length (Z126) V1
    refine value_ (w1:=V1.alloc (.cells (madeCells #[.int .i64 0] (p.length+1)) 3)) (v:=.slice (some ⟨V1.heap.size,0,none⟩) (p.length+1) (p.length+1)) (by rfl) rfl ?_ ?_
    ·first|(go_simp;done)|(go_simp;rfl)
    have hz:=zero_row (p.length+1) (Z126) V1
    have hb2:=below_alloc (Below.refl V1.heap.size V1) (.cells (madeCells #[.int .i64 0] (p.length+1)) 3)
    have hgl:=blk_lt (Go.MapKept.heap_alloc V1 (.cells (madeCells #[.int .i64 0] (p.length+1)) 3)).1
    generalize V1.alloc (.cells (madeCells #[.int .i64 0] (p.length+1)) 3)=V2 at hz hb2 hgl ⊢
    have hS2:=bt_ hS1 hb2
    clear hm
    refine hK.out _ _ hS2 (fun _=>?_)
    clear hK K
    refine nI ?_
    refine pI 6 (some 12) (bs 9 127) ?_
    refine one_ (i:=7) (N:=some 3) (bs 9 255) rfl rfl (Z15) (Z31) (fun K hK=>?_)
    refine value_ (w1:=V2.alloc (.cells #[.slice none 0 0,.slice none 0 0] 116)) (v:=.pointer (some ⟨V2.heap.size,0,none⟩)) (by rfl) rfl ?_ ?_
    ·first|(go_simp;done)|(go_simp;rfl)
    have hb3:=below_alloc (Below.refl V2.heap.size V2) (.cells #[.slice none 0 0,.slice none 0 0] 116)
    have hX:=(Go.MapKept.heap_alloc V2 (.cells #[.slice none 0 0,.slice none 0 0] 116)).1
    generalize V2.alloc (.cells #[.slice none 0 0,.slice none 0 0] 116)=V3 at hX hb3 ⊢
    have hS3:=bt_ hS2 hb3
    refine hK.out _ _ hS3 (fun _=>?_)
    clear hK K
    refine nI ?_
    have hq:V1.heap.size≤V1.heap.size:=Z144
    have hne:=R_ne ho (g:=V1.heap.size) (.inr hq)
    have hA:=Kd.R_lower hne hS0.size
    replace hA:=Kd.R_below hA hb2
    replace hA:=Kd.R_below hA hb3
    have hG:=Kd.R_lower hz hS1.size
    replace hG:=Kd.R_below hG hb3
    exact norm_ (Z106) (hcont ⟨A',c',V1.heap.size,V2.heap.size⟩ _ ⟨hS3,hA,hG,hX,hS1.size,hS2.size⟩)
   ·refine value_ (w1:=V1.alloc (.cells #[.slice none 0 0,.slice none 0 0] 116)) (v:=.pointer (some ⟨V1.heap.size,0,none⟩)) (by rfl) rfl ?_ ?_
    ·first|(go_simp;done)|(go_simp;rfl)
    have hb2:=below_alloc (Below.refl V1.heap.size V1) (.cells #[.slice none 0 0,.slice none 0 0] 116)
    have hX:=(Go.MapKept.heap_alloc V1 (.cells #[.slice none 0 0,.slice none 0 0] 116)).1
    generalize V1.alloc (.cells #[.slice none 0 0,.slice none 0 0] 116)=V2 at hX hb2 ⊢
    have hS2:=bt_ hS1 hb2
    refine hK.out _ _ hS2 (fun _=>?_)
    clear hK K
    refine nI ?_
    refine one_ (i:=5) (N:=some 11) (bs 9 191) rfl rfl (Z15) (Z31) (fun K hK=>?_)
    have hm:=makeB p.length (Z126) V2
    refine value_ (w1:=V2.alloc (.cells (madeCells #[.int .i64 0] (p.length+1)) 3)) (v:=.slice (some ⟨V2.heap.size,0,none⟩) (p.length+1) (p.length+1)) (by rfl) rfl ?_ ?_
    ·first|(go_simp;done)|(go_simp;rfl)
    have hz:=zero_row (p.length+1) (Z126) V2
    have hb3:=below_alloc (Below.refl V2.heap.size V2) (.cells (madeCells #[.int .i64 0] (p.length+1)) 3)
    have hgl:=blk_lt (Go.MapKept.heap_alloc V2 (.cells (madeCells #[.int .i64 0] (p.length+1)) 3)).1
    generalize V2.alloc (.cells (madeCells #[.int .i64 0] (p.length+1)) 3)=V3 at hz hb3 hgl ⊢
    have hS3:=bt_ hS2 hb3
    clear hm
    refine hK.out _ _ hS3 (fun _=>?_)
    clear hK K
    refine nI ?_
    refine pI 6 (some 12) (bs 9 255) ?_
    have hq:V1.heap.size≤V2.heap.size:=Z144
    have hne:=R_ne ho (g:=V2.heap.size) (.inr hq)
    have hA:=Kd.R_lower hne hS0.size
    replace hA:=Kd.R_below hA hb2
    replace hA:=Kd.R_below hA hb3
    have hG:=Kd.R_lower hz hS2.size
    replace hX:=(hb3.block _ (blk_lt hX)).trans hX
    exact norm_ (Z106) (hcont ⟨A',c',V2.heap.size,V1.heap.size⟩ _ ⟨hS3,hA,hG,hX,hS2.size,hS1.size⟩)
  ·have hm:=makeB p.length (Z126) V0
   refine value_ (w1:=V0.alloc (.cells (madeCells #[.int .i64 0] (p.length+1)) 3)) (v:=.slice (some ⟨V0.heap.size,0,none⟩) (p.length+1) (p.length+1)) (by rfl) rfl ?_ ?_
   ·first|(go_simp;done)|(go_simp;rfl)
   have hz:=zero_row (p.length+1) (Z126) V0
   have hb1:=below_alloc (Below.refl V0.heap.size V0) (.cells (madeCells #[.int .i64 0] (p.length+1)) 3)
   have hgl:=blk_lt (Go.MapKept.heap_alloc V0 (.cells (madeCells #[.int .i64 0] (p.length+1)) 3)).1
   generalize V0.alloc (.cells (madeCells #[.int .i64 0] (p.length+1)) 3)=V1 at hz hb1 hgl ⊢
   have hS1:=bt_ hS0 hb1
   clear hm
   refine hK.out _ _ hS1 (fun _=>?_)
   clear hK K
   refine nI ?_
   refine two_ (i:=1) (j:=7) (Ni:=some 7) (Nj:=some 3) #[true,true,true,true,true,true,false,false,false] #[true,false,true,true,true,true,false,true,false] rfl rfl rfl rfl (Z15) (Z31) (Z31) (fun K hK=>?_) (fun K hK=>?_)
   ·refine goes_ Tryz.func58 (Z15) rfl #[.slice (some ad) p.length c] (by rfl) rfl rfl (Z101) ?_
    refine(cloneR ad c p V1 (Kd.C_below HR.out (HB2.out.trans (hS1.mono HB2.out.size))) (Z126)).mono ?_
    rintro e V2 ⟨A',c',rfl,ho,hb2⟩
    refine⟨_,rfl,?_⟩
    have hS2:=bt_ hS1 hb2
    refine hK.out _ _ hS2 (fun _=>?_)
    clear hK K
    refine nI ?_
    refine pI 6 (some 12) (bs 9 127) ?_
    refine one_ (i:=7) (N:=some 3) (bs 9 255) rfl rfl (Z15) (Z31) (fun K hK=>?_)
    refine value_ (w1:=V2.alloc (.cells #[.slice none 0 0,.slice none 0 0] 116)) (v:=.pointer (some ⟨V2.heap.size,0,none⟩)) (by rfl) rfl ?_ ?_
    ·first|(go_simp;done)|(go_simp;rfl)
    have hb3:=below_alloc (Below.refl V2.heap.size V2) (.cells #[.slice none 0 0,.slice none 0 0] 116)
    have hX:=(Go.MapKept.heap_alloc V2 (.cells #[.slice none 0 0,.slice none 0 0] 116)).1
    generalize V2.alloc (.cells #[.slice none 0 0,.slice none 0 0] 116)=V3 at hX hb3 ⊢
    have hS3:=bt_ hS2 hb3
    refine hK.out _ _ hS3 (fun _=>?_)
    clear hK K
    refine nI ?_
    have hq:V0.heap.size<V1.heap.size:=Z144
    have hne:=R_ne ho (g:=V0.heap.size) (.inl hq)
    have hA:=Kd.R_lower hne hS1.size
    replace hA:=Kd.R_below hA hb3
    have hG:=Kd.R_lower hz hS0.size
    replace hG:=Kd.R_below hG hb2
    replace hG:=Kd.R_below hG hb3
    exact norm_ (Z106) (hcont ⟨A',c',V0.heap.size,V2.heap.size⟩ _ ⟨hS3,hA,hG,hX,hS0.size,hS2.size⟩)
   ·refine value_ (w1:=V1.alloc (.cells #[.slice none 0 0,.slice none 0 0] 116)) (v:=.pointer (some ⟨V1.heap.size,0,none⟩)) (by rfl) rfl ?_ ?_
    ·first|(go_simp;done)|(go_simp;rfl)
    have hb2:=below_alloc (Below.refl V1.heap.size V1) (.cells #[.slice none 0 0,.slice none 0 0] 116)
    have hX:=(Go.MapKept.heap_alloc V1 (.cells #[.slice none 0 0,.slice none 0 0] 116)).1
    generalize V1.alloc (.cells #[.slice none 0 0,.slice none 0 0] 116)=V2 at hX hb2 ⊢
    have hS2:=bt_ hS1 hb2
    refine hK.out _ _ hS2 (fun _=>?_)
    clear hK K
    refine nI ?_
    refine one_ (i:=1) (N:=some 7) (bs 9 191) rfl rfl (Z15) (Z31) (fun K hK=>?_)
    refine goes_ Tryz.func58 (Z15) rfl #[.slice (some ad) p.length c] (by rfl) rfl rfl (Z101) ?_
    refine(cloneR ad c p V2 (Kd.C_below HR.out (HB2.out.trans (hS2.mono HB2.out.size))) (Z126)).mono ?_
    rintro e V3 ⟨A',c',rfl,ho,hb3⟩
    refine⟨_,rfl,?_⟩
    have hS3:=bt_ hS2 hb3
    refine hK.out _ _ hS3 (fun _=>?_)
    clear hK K
    refine nI ?_
    refine pI 6 (some 12) (bs 9 255) ?_
    have hq:V0.heap.size<V2.heap.size:=Z144
    have hne:=R_ne ho (g:=V0.heap.size) (.inl hq)
    have hA:=Kd.R_lower hne hS2.size
    have hG:=Kd.R_lower hz hS0.size
    replace hG:=Kd.R_below hG hb2
    replace hG:=Kd.R_below hG hb3
    replace hX:=(hb3.block _ (blk_lt hX)).trans hX
    exact norm_ (Z106) (hcont ⟨A',c',V0.heap.size,V1.heap.size⟩ _ ⟨hS3,hA,hG,hX,hS0.size,hS1.size⟩)
  ·refine value_ (w1:=V0.alloc (.cells #[.slice none 0 0,.slice none 0 0] 116)) (v:=.pointer (some ⟨V0.heap.size,0,none⟩)) (by rfl) rfl ?_ ?_
   ·first|(go_simp;done)|(go_simp;rfl)
   have hb1:=below_alloc (Below.refl V0.heap.size V0) (.cells #[.slice none 0 0,.slice none 0 0] 116)
   have hX:=(Go.MapKept.heap_alloc V0 (.cells #[.slice none 0 0,.slice none 0 0] 116)).1
   generalize V0.alloc (.cells #[.slice none 0 0,.slice none 0 0] 116)=V1 at hX hb1 ⊢
   have hS1:=bt_ hS0 hb1
   refine hK.out _ _ hS1 (fun _=>?_)
   clear hK K
   refine nI ?_
   refine two_ (i:=1) (j:=5) (Ni:=some 7) (Nj:=some 11) #[true,true,true,true,true,false,false,true,false] #[true,false,true,true,true,true,false,true,false] rfl rfl rfl rfl (Z15) (Z31) (Z31) (fun K hK=>?_) (fun K hK=>?_)
   ·refine goes_ Tryz.func58 (Z15) rfl #[.slice (some ad) p.length c] (by rfl) rfl rfl (Z101) ?_
    refine(cloneR ad c p V1 (Kd.C_below HR.out (HB2.out.trans (hS1.mono HB2.out.size))) (Z126)).mono ?_
    rintro e V2 ⟨A',c',rfl,ho,hb2⟩
    refine⟨_,rfl,?_⟩
    have hS2:=bt_ hS1 hb2
    refine hK.out _ _ hS2 (fun _=>?_)
    clear hK K
    refine nI ?_
    refine one_ (i:=5) (N:=some 11) (bs 9 191) rfl rfl (Z15) (Z31) (fun K hK=>?_)
    have hm:=makeB p.length (Z126) V2
    refine value_ (w1:=V2.alloc (.cells (madeCells #[.int .i64 0] (p.length+1)) 3)) (v:=.slice (some ⟨V2.heap.size,0,none⟩) (p.length+1) (p.length+1)) (by rfl) rfl ?_ ?_
    ·first|(go_simp;done)|(go_simp;rfl)
    have hz:=zero_row (p.length+1) (Z126) V2
    have hb3:=below_alloc (Below.refl V2.heap.size V2) (.cells (madeCells #[.int .i64 0] (p.length+1)) 3)
    have hgl:=blk_lt (Go.MapKept.heap_alloc V2 (.cells (madeCells #[.int .i64 0] (p.length+1)) 3)).1
    generalize V2.alloc (.cells (madeCells #[.int .i64 0] (p.length+1)) 3)=V3 at hz hb3 hgl ⊢
    have hS3:=bt_ hS2 hb3
    clear hm
    refine hK.out _ _ hS3 (fun _=>?_)
    clear hK K
    refine nI ?_
    refine pI 6 (some 12) (bs 9 255) ?_
    have hq:V2.heap.size≤V2.heap.size:=Z144
    have hne:=R_ne ho (g:=V2.heap.size) (.inr hq)
    have hA:=Kd.R_lower hne hS1.size
    replace hA:=Kd.R_below hA hb3
    have hG:=Kd.R_lower hz hS2.size
    replace hX:=(hb2.block _ (blk_lt hX)).trans hX
    replace hX:=(hb3.block _ (blk_lt hX)).trans hX
    exact norm_ (Z106) (hcont ⟨A',c',V2.heap.size,V0.heap.size⟩ _ ⟨hS3,hA,hG,hX,hS2.size,hS0.size⟩)
   ·have hm:=makeB p.length (Z126) V1
    refine value_ (w1:=V1.alloc (.cells (madeCells #[.int .i64 0] (p.length+1)) 3)) (v:=.slice (some ⟨V1.heap.size,0,none⟩) (p.length+1) (p.length+1)) (by rfl) rfl ?_ ?_
    ·first|(go_simp;done)|(go_simp;rfl)
    have hz:=zero_row (p.length+1) (Z126) V1
    have hb2:=below_alloc (Below.refl V1.heap.size V1) (.cells (madeCells #[.int .i64 0] (p.length+1)) 3)
    have hgl:=blk_lt (Go.MapKept.heap_alloc V1 (.cells (madeCells #[.int .i64 0] (p.length+1)) 3)).1
    generalize V1.alloc (.cells (madeCells #[.int .i64 0] (p.length+1)) 3)=V2 at hz hb2 hgl ⊢
    have hS2:=bt_ hS1 hb2
    clear hm
    refine hK.out _ _ hS2 (fun _=>?_)
    clear hK K
    refine nI ?_
    refine one_ (i:=1) (N:=some 7) (bs 9 191) rfl rfl (Z15) (Z31) (fun K hK=>?_)
    refine goes_ Tryz.func58 (Z15) rfl #[.slice (some ad) p.length c] (by rfl) rfl rfl (Z101) ?_
    refine(cloneR ad c p V2 (Kd.C_below HR.out (HB2.out.trans (hS2.mono HB2.out.size))) (Z126)).mono ?_
    rintro e V3 ⟨A',c',rfl,ho,hb3⟩
    refine⟨_,rfl,?_⟩
    have hS3:=bt_ hS2 hb3
    refine hK.out _ _ hS3 (fun _=>?_)
    clear hK K
    refine nI ?_
    refine pI 6 (some 12) (bs 9 255) ?_
    have hq:V1.heap.size<V2.heap.size:=Z144
    have hne:=R_ne ho (g:=V1.heap.size) (.inl hq)
    have hA:=Kd.R_lower hne hS2.size
    have hG:=Kd.R_lower hz hS1.size
    replace hG:=Kd.R_below hG hb3
    replace hX:=(hb2.block _ (blk_lt hX)).trans hX
    replace hX:=(hb3.block _ (blk_lt hX)).trans hX
    exact norm_ (Z106) (hcont ⟨A',c',V1.heap.size,V0.heap.size⟩ _ ⟨hS3,hA,hG,hX,hS1.size,hS0.size⟩)
 ·rintro⟨A',c',g,b⟩ w8 ⟨hS8,hA8,hG8,hX8,hg8,hb8⟩
  simp only at hA8 hG8 hX8 hg8 hb8
  refine norm_ (a':=?_) ?_ ?_
  rotate_left
  ·(simp only[Act.put,putAll,List.setIfInBounds_toArray,List.set_cons_zero,List.set_cons_succ];rfl)
  have f0:=cell_of (i:=0) hX8 rfl
  have f1:=cell_of (i:=1) hX8 rfl
  have z0:=frozen_of hX8 0
  have z1:=frozen_of hX8 1
  refine one_ (i:=8) (N:=none) (bs 9 511) rfl rfl (Z15) (Z31) (fun K hK=>?_)
  have hS9:=(hS8.setCell (p:=⟨b,0,none⟩) hb8 (.slice A' p.length c')).setCell (p:=⟨b,1,none⟩) hb8 (.slice (some ⟨g,0,none⟩) (p.length+1) (p.length+1))
  refine skip_ (w1:=(w8.setCell ⟨b,0,none⟩ (.slice A' p.length c')).setCell ⟨b,1,none⟩ (.slice (some ⟨g,0,none⟩) (p.length+1) (p.length+1))) (by rfl) rfl ?_ ?_
  ·first|(go_simp;done)|(go_simp;rfl)
  refine hK.out _ _ hS9 (fun _=>?_)
  clear hK K
  refine done_ (Z15) ?_
  have hA9:=Kd.R_set (Kd.R_set hA8 hX8 (Z31) 0 (.slice A' p.length c')) (blk_set hX8 0 _) (Z31) 1 (.slice (some ⟨g,0,none⟩) (p.length+1) (p.length+1))
  have hG9:=Kd.R_set (Kd.R_set hG8 hX8 (Z31) 0 (.slice A' p.length c')) (blk_set hX8 0 _) (Z31) 1 (.slice (some ⟨g,0,none⟩) (p.length+1) (p.length+1))
  have hX9:=blk_set (blk_set hX8 0 (.slice A' p.length c')) 1 (.slice (some ⟨g,0,none⟩) (p.length+1) (p.length+1))
  rw[bkI_zero]at hG9
  have HA9:=As.mk hA9
  have HG9:=As.mk hG9
  have HX9:=As.mk hX9
  have HS9:=As.mk hS9
  have HGB:=As.mk (And.intro hg8 hb8)
  clear hA8 hG8 hX8 hS8 hA9 hG9 hX9 hS9 f0 f1 z0 z1 hg8 hb8
  generalize (w8.setCell ⟨b,0,none⟩ (.slice A' p.length c')).setCell ⟨b,1,none⟩ (.slice (some ⟨g,0,none⟩) (p.length+1) (p.length+1))=w9 at HA9 HG9 HX9 HS9 ⊢
  go_wp2_with fail
  go_loopg [4,5] p.length (fun k v4 v5 W=>∃ (i:Nat),v5=.int .i64 (i:Int)/\v4=.int .i64 ((bk p i:Nat):Int)/\1≤i/\i≤p.length/\As (p.length-i≤k)/\As (Below w2.heap.size w2 W)/\As (Kd.R (Kd.int .i64) 3 W w2.heap.size (fun k=>k≠g) (.slice A' p.length c') p)/\As (Kd.R (Kd.int .i64) 3 W w2.heap.size (fun _=>True) (.slice (some ⟨g,0,none⟩) (p.length+1) (p.length+1)) (bkI p i))/\As (W.heap[b]?=some (.cells #[.slice A' p.length c',.slice (some ⟨g,0,none⟩) (p.length+1) (p.length+1)] 116 (0,0))))
  case atStart=>exact⟨1,rfl,by rw[bk_one];rfl,Nat.le_refl _,hpos,⟨Z1⟩,HS9,HA9,HG9,HX9⟩
  case round =>
   clear HS9 HA9 HG9 HX9
   obtain⟨i,rfl,rfl,hi1,hi,HK,HW,HA,HG,HX⟩:=hrel
   rename World=>W
   have f0:=cell_of (i:=0) HX.out rfl
   have f1:=cell_of (i:=1) HX.out rfl
   by_cases hlt:i<p.length
   ·obtain⟨k1,rfl⟩:∃ k1,gk=k1+1:=⟨gk-1,Z65⟩
    have hltI:(i:Int)<(p.length:Int):=Z1
    have hltJ:(i:Int)+1<((p.length+1:Nat):Int):=Z1
    have hltK:(i:Int)+1<(p.length:Int)+1:=Z1
    have hw1:wrap64 ((i:Int)+1)=(i:Int)+1:=w64 (Z1) (Z126)
    have HY:=As.mk (List.getElem?_eq_getElem hlt)
    have HST:=As.mk (bk_step HP.out hi1 hlt (f:=p.length+1) (Z1))
    generalize p[i]=y at *
    go_wp2_with fail
    refine start_ (n:=8) (S:=fun w'=>Below W.heap.size W w') (ds:=[]) #[false,false,false,false,false,false,false,false] (Z15) rfl rfl (below_drew1 (Below.refl _ _)) (fun hHeld=>?_)
    have HD3:=As.mk (below_drew1 (Below.refl W.heap.size W));clear hHeld;generalize W.drew=w3 at HD3 ⊢;have hHeld:=HD3.out
    refine pI 1 (some 20) (bs 8 2) ?_
    refine pI 2 (some 21) (bs 8 6) ?_
    refine pI 3 (some 22) (bs 8 14) ?_
    refine pI 4 (some 23) (bs 8 30) ?_
    refine tI 0 (some 19) (bs 8 31) rfl (by intro w' hS';have s0:=hS';have hx:=(hS'.block _ (blk_lt HX.out)).trans HX.out;have g0:=cell_of (i:=0) hx rfl;have g1:=cell_of (i:=1) hx rfl;go_simp;with_reducible rfl) hHeld ?_
    refine tI 5 (some 24) (bs 8 63) rfl (by intro w' hS';have s0:=hS';have z:=rd_ad (Kd.C_below HR.out (HB2.out.trans ((bt_ HW.out hS').mono HB2.out.size))) HY.out;go_simp;with_reducible rfl) hHeld ?_
    refine one_ (i:=6) (N:=some 25) (bs 8 127) rfl rfl (Z15) (Z31) (fun K hK=>?_)
    refine goes_ Tryz.func101 (Z15) rfl #[.agg #[.slice A' p.length c',.slice (some ⟨g,0,none⟩) (p.length+1) (p.length+1)],.int .i64 ((bk p i:Nat):Int),.int .i64 y] (by rfl) rfl rfl (Z101) ?_
    have hA3:=Kd.R_reads' (Kd.R_below HA.out HD3.out)
    have hG3:=Kd.R_reads' (Kd.R_below HG.out HD3.out)
    have hst:=step_any (p:=p) (B:=bkI p i) (n:=y) (k:=bk p i) (c2:=p.length+1) (m:=p.length+1) HP.out (bkI_len p i) HL.out (Z145) (fun j h1 h2=>bkI_at (Z145) (Z145)) w3 hA3.2.2 hA3.2.1 hG3.2.2 (by rw[bkI_len];exact Nat.le_refl _) (by rw[bkI_len])
    rw[HST.out]at hst
    refine hst.mono ?_
    clear hst hA3 hG3
    rintro e w4 ⟨rfl,hb⟩
    have HD4:=As.mk (bt_ HD3.out hb)
    clear hb
    refine⟨_,rfl,?_⟩
    refine hK.out _ _ HD4.out (fun hHeld=>?_)
    clear hK K
    refine nI ?_
    refine pI 7 (some 4) (bs 8 255) ?_
    refine done_ (Z15) ?_
    have HW4:=As.mk (bt_ HW.out HD4.out)
    have hA4:=Kd.R_below HA.out HD4.out
    have hG4:=Kd.R_below HG.out HD4.out
    have hX4:=(HD4.out.block _ (blk_lt HX.out)).trans HX.out
    have hbg:=own_ne hG4 hX4 (Z31)
    have q0:=cell_of (i:=0) hX4 rfl
    have q1:=cell_of (i:=1) hX4 rfl
    obtain⟨y0,hy0⟩:∃ y0,(bkI p i)[i+1]?=some y0:=⟨_,List.getElem?_eq_getElem (by rw[bkI_len];omega)⟩
    have qc:=own_cell hG4 hy0
    have qf:=own_froz hG4 (i+1)
    obtain⟨hP1,hP2⟩:=Kd.R_putg hG4 ((i:Int)+1) ((bk p (i+1):Nat):Int)
    rw[show ((i:Int)+1).toNat=i+1 from Z1]at hP1 hP2
    rw[bkI_set]at hP1
    have HP1:=As.mk hP1
    have HP2:=As.mk (Kd.R_grown hA4 hP2 (fun k hk e=>by injection e with e;exact hk e))
    have HP3:=As.mk ((Below.heap_setCell w4 ⟨g,i+1,none⟩ (.int .i64 ((bk p (i+1):Nat):Int)) b hbg).trans hX4)
    have HP4:=As.mk (HW4.out.setCell (p:=⟨g,i+1,none⟩) HGB.out.1 (.int .i64 ((bk p (i+1):Nat):Int)))
    clear f0 f1 hA4 hG4 hX4 hP1 hP2 hy0
    go_wp2
    go_roundg k1
    case measure=>omega
    case rel=>exact⟨i+1,Z67,rfl,Z1,Z1,⟨Z65⟩,HP4,HP2,HP1,HP3⟩
   ·obtain rfl:i=p.length:=by omega
    have hN:=(HW.out.block _ (blk_lt HN.out)).trans HN.out
    have n0:=cell_of (i:=0) hN rfl
    have n1:=cell_of (i:=1) hN rfl
    have m0:=frozen_of hN 0
    have m1:=frozen_of hN 1
    have hG:=HG.out
    rw[bkI_all]at hG
    have HG2:=As.mk (Rw.of (Kd.R_set (Kd.R_set hG hN (Z31) 0 (.slice A' p.length c')) (blk_set hN 0 _) (Z31) 1 (.slice (some ⟨g,0,none⟩) (p.length+1) (p.length+1))))
    have HA2:=As.mk (Rw.of (Kd.R_set (Kd.R_set HA.out hN (Z31) 0 (.slice A' p.length c')) (blk_set hN 0 _) (Z31) 1 (.slice (some ⟨g,0,none⟩) (p.length+1) (p.length+1))))
    have HW2:=As.mk ((((HB2.out.trans (HW.out.mono HB2.out.size)).setCell (p:=⟨w.heap.size,0,none⟩) (Nat.le_refl _) (.slice A' p.length c')).setCell (p:=⟨w.heap.size,1,none⟩) (Nat.le_refl _) (.slice (some ⟨g,0,none⟩) (p.length+1) (p.length+1))))
    have k0:=cell_of (i:=0) (blk_set (blk_set hN 0 (.slice A' p.length c')) 1 (.slice (some ⟨g,0,none⟩) (p.length+1) (p.length+1))) rfl
    have k1:=cell_of (i:=1) (blk_set (blk_set hN 0 (.slice A' p.length c')) 1 (.slice (some ⟨g,0,none⟩) (p.length+1) (p.length+1))) rfl
    have HZ:=As.mk (blk_set (blk_set hN 0 (.slice A' p.length c')) 1 (.slice (some ⟨g,0,none⟩) (p.length+1) (p.length+1)))
    clear hG hN
    go_wp2
    (try simp only[Exit.inBlock,Exit.then])
    refine bodyPost_ret (results_cell_row (p:=2) (ty:=116) rfl _ _ w.heap.size 116 _ (0,0) _ (by rfl) HZ.out Tryz.underlying116 rfl (Z15)) rfl ?_
    exact⟨A',c',g,rfl,HA2.out,HG2.out,HW2.out⟩
end Go.Proofs.YtkffhgiiejbnaaaGreat.Sk
namespace Go.Proofs.YtkffhgiiejbnaaaGreat.Sk
open Go.Shelf Go.RowKit YtkffhgiiejbnaaaGreatW.PrintWords YtkffhgiiejbnaaaGreatW.PrintLast YtkffhgiiejbnaaaGreatW.PrintMore Rf Aid Mp Hp Tk Vc En
theorem has_ok {w:World} {v:Nat} {s:Vc.Sp} (h:VocAt w v s) (id:Int):Calls Tryz.prog 70 #[.pointer (some ⟨v,0,none⟩),.int .i64 id] w fun e w'=>e=.returned (.bool (hasId s id))/\w=w':=by
 have H:=As.mk h
 clear h
 unfold hasId
 cases hi:Mk.idxI s.X id with
 | some i =>
  have HI:=As.mk hi
  simp only[Option.isSome_some,Bool.true_or]
  clear hi
  go_enter Tryz.func70,Tryz.ntmps70
  go_wp2_with (first
   | (go_at_call 67;refine(marks_any H.out).mono ?_;rintro e w1 ⟨pm,rfl,hm,rfl⟩;have HM:=As.mk hm;clear hm)
   | (go_at_call 98;have hma:=Mk.mark_any HM.out id;rw[HI.out]at hma;unfold Mk.markT Mk.markV at hma;simp only[Option.isSome_some]at hma;refine hma.mono ?_;clear hma;rintro e w2 ⟨rfl,rfl⟩))
  go_ret
  exact⟨rfl,rfl⟩
 | none =>
  have HI:=As.mk hi
  simp only[Option.isSome_none,Bool.false_or]
  unfold hasE
  clear hi
  generalize hE:(tabOf s).1=E
  have HE:=As.mk hE
  clear hE
  by_cases h0:0≤id
  ·rw[show decide (0≤id/\id<(E.length:Int))=decide (id<(E.length:Int)) by simp[h0]]
   go_enter Tryz.func70,Tryz.ntmps70
   go_wp2_with (first
    | (go_at_call 67;refine(marks_any H.out).mono ?_;rintro e w1 ⟨pm,rfl,hm,rfl⟩;have HM:=As.mk hm;clear hm)
    | (go_at_call 98;have hma:=Mk.mark_any HM.out id;rw[HI.out]at hma;unfold Mk.markT Mk.markV at hma;simp only[Option.isSome_none]at hma;refine hma.mono ?_;clear hma;rintro e w2 ⟨rfl,rfl⟩)
    | (go_at_call 99;go_enter Tryz.func99,Tryz.ntmps99)
    | (go_at_call 131;refine(table_any H.out).mono ?_;rintro e w3 ⟨pt,rfl,ht,rfl⟩;rw[HE.out]at ht;have HT:=As.mk ht;clear ht)
    | (go_at_call 121;refine(Ch.len_of HT.out).mono ?_;rintro e w4 ⟨rfl,rfl⟩))
   go_ret
   exact⟨rfl,rfl⟩
  ·rw[show decide (0≤id/\id<(E.length:Int))=false by simp[h0]]
   have h0':id<0:=Z1
   go_enter Tryz.func70,Tryz.ntmps70
   go_wp2_with (first
    | (go_at_call 67;refine(marks_any H.out).mono ?_;rintro e w1 ⟨pm,rfl,hm,rfl⟩;have HM:=As.mk hm;clear hm)
    | (go_at_call 98;have hma:=Mk.mark_any HM.out id;rw[HI.out]at hma;unfold Mk.markT Mk.markV at hma;simp only[Option.isSome_none]at hma;refine hma.mono ?_;clear hma;rintro e w2 ⟨rfl,rfl⟩))
   go_ret
   exact⟨rfl,rfl⟩
def kPl:Kd (Int × Int) where
 sz:=2
 E:=[]
 K:=fun _ x cs=>cs=[.int .i64 x.1,.int .i64 x.2]
 M:=fun _ _ _ x cs=>cs=[.int .i64 x.1,.int .i64 x.2]
 K_len:=by rintro _ _ _ rfl;rfl
 K_one:=by
  rintro _ _ _ rfl u hu
  rcases List.mem_cons.1 hu with e|hu
  ·rw[e];rfl
  ·rw[List.mem_singleton.1 hu];rfl
 K_below:=fun _ h=>h
 K_of_M:=fun h=>h
 M_mono:=fun _ h=>h
 M_bound:=fun h=>h
 M_move:=fun _ h=>h
 M_lower:=fun _ h=>h
theorem info_pl:(Tryz.prog.info? 179).map (fun i=>(i.zero,i.size,i.bytes))=some (some (.agg #[.int .i64 0,.int .i64 0]),2,16):=Z15
theorem pl_cells {w:World} {base n c:Nat} {ok:Nat->Prop} {A:Option Addr} {l:List (Int × Int)} (h:Kd.R kPl 179 w base ok (.slice A n c) l) {i:Nat} {x:Int × Int} (hx:l[i]?=some x):∃ g,A=some ⟨g,0,none⟩/\w.cell? ⟨g,i * 2,none⟩=some (.int .i64 x.1)/\w.cell? ⟨g,i * 2+1,none⟩=some (.int .i64 x.2):=by
 obtain⟨hl,_⟩:=List.getElem?_eq_some_iff.1 hx
 obtain⟨g,c',e',_⟩:=Kd.R_form h (Z1)
 injection e' with e1 e2 e3
 subst e1
 obtain⟨h1,h2,h3⟩:=(Kd.R_reads' h).2.2
 obtain⟨ad,e,hc⟩:=h3 (Z1)
 injection e with e
 subst e
 obtain⟨cs,q1,q2,q3⟩:=hc i x hx
 have q2':cs=[.int .i64 x.1,.int .i64 x.2]:=q2
 subst q2'
 have r0:=q3 0 _ rfl
 have r1:=q3 1 _ rfl
 rw[show kPl.sz=2 from rfl]at r0 r1
 refine⟨g,rfl,?_,?_⟩
 ·rw[show (⟨g,0,none⟩:Addr).add (i * 2+0)=⟨g,i * 2,none⟩ from Z0]at r0
  exact r0
 ·rw[show (⟨g,0,none⟩:Addr).add (i * 2+1)=⟨g,i * 2+1,none⟩ from Z0]at r1
  exact r1
structure SkAt (w:World) (d v:Nat) (Ap:Option Addr) (cp g:Nat) (lv:Value) (p xs:List Int) (T:Nat) (last:List (Int × Int)):Prop where
 blk:w.heap[d]?=some (.cells #[.slice Ap p.length cp,.slice (some ⟨g,0,none⟩) (p.length+1) (p.length+1),.pointer (some ⟨v,0,none⟩),.int .i64 ((metF p xs:Nat):Int),.int .i64 (xs.length:Int),.int .i64 (T:Int),lv] 119 (0,0))
 hp:Rw w (.slice Ap p.length cp) p
 hb:Rw w (.slice (some ⟨g,0,none⟩) (p.length+1) (p.length+1)) (bkL p)
 hl:Kd.R kPl 179 w d (fun _=>True) lv last
def Kp (d:Nat) (w w':World):Prop:=Below d w w'/\∀ (k:Nat) (o:Obj),w.heap[k]?=some o->(∀ cs fr,o≠.cells cs 119 fr)->(∀ cs fr,o≠.cells cs 179 fr)->w'.heap[k]?=some o
theorem Kp.of {d:Nat} {w w':World} (h:Below w.heap.size w w') (hd:d≤w.heap.size):Kp d w w':=⟨h.mono hd,fun k o ho _ _=>(h.block k (Array.getElem?_eq_some_iff.1 ho).1).trans ho⟩
theorem Kp.trans {d:Nat} {a b c:World} (h:Kp d a b) (k:Kp d b c):Kp d a c:=⟨h.1.trans k.1,fun i o ho h1 h2=>k.2 i o (h.2 i o ho h1 h2) h1 h2⟩
theorem Kp.R {α:Type} {kd:Kd α} {e d:Nat} {w w':World} {base:Nat} {ok:Nat->Prop} {v:Value} {xs:List α} (k:Kp d w w') (h:Kd.R kd e w base ok v xs) (h1:∀ q,q∈e::kd.E->q≠119/\q≠179):Kd.R kd e w' base ok v xs :=
 Kd.R_mono (Kd.R_move (Kd.R_bound h) (fun j hj=>by
  obtain⟨_,_,_,q,hq,cells,hc⟩:=hj
  exact(k.2 j _ hc (fun cs fr e=>(h1 q hq).1 (Z146)) (fun cs fr e=>(h1 q hq).2 (Z146))).trans hc.symm)) (fun _ hk=>hk.1)
theorem Kp.rw {d:Nat} {w w':World} {v:Value} {xs:List Int} (k:Kp d w w') (h:Rw w v xs):Rw w' v xs:=k.R h (fun q hq=>Z147)
theorem Kp.set {d:Nat} {w:World} {cs:Array Value} (h:w.heap[d]?=some (.cells cs 119 (0,0))) (j:Nat) (u:Value):Kp d w (w.setCell ⟨d,j,none⟩ u) :=
 ⟨(Below.refl d w).setCell (p:=⟨d,j,none⟩) (Nat.le_refl _) u,fun k o ho h1 _=>(Below.heap_setCell w ⟨d,j,none⟩ u k (fun e=>by
  have e':k=d:=e
  subst e'
  rw[h]at ho
  injection ho with ho
  exact h1 _ _ ho.symm)).trans ho⟩
theorem Kp.grow {d:Nat} {w w':World} {ok:Nat->Prop} {lv:Value} {l:List (Int × Int)} (h:Kd.R kPl 179 w d ok lv l) (hg:w.grownBy w' lv.ownBlock) (hd:d≤w.heap.size):Kp d w w' :=
 ⟨(Below.refl d w).grown hg hd (fun k e=>((Kd.R_bound h).1 k e).2.1),fun k o ho _ h2=>(hg.block k (Array.getElem?_eq_some_iff.1 ho).1 (fun e=>by
  obtain⟨_,_,_,q,hq,cells,hc⟩:=(Kd.R_bound h).1 k e.symm
  rw[ho]at hc
  injection hc with hc
  rw[List.mem_singleton.1 hq]at hc
  exact h2 _ _ hc)).trans ho⟩
theorem SkAt.below {w w':World} {d v:Nat} {Ap:Option Addr} {cp g:Nat} {lv:Value} {p xs:List Int} {T:Nat} {last:List (Int × Int)} (h:SkAt w d v Ap cp g lv p xs T last) (hb:Below w.heap.size w w'):SkAt w' d v Ap cp g lv p xs T last :=
 ⟨(hb.block _ (blk_lt h.blk)).trans h.blk,h.hp.below hb,h.hb.below hb,Kd.R_below h.hl hb⟩
theorem bkL_at {p:List Int} {j:Nat} (hl:j≤p.length):(bkL p)[j]?=some ((bk p j:Nat):Int):=by rw[←bkI_all];exact bkI_at hl hl
theorem bkL_len (p:List Int):(bkL p).length=p.length+1:=by rw[←bkI_all];exact bkI_len p _
section
variable {w:World} {d v:Nat} {Ap:Option Addr} {cp g:Nat} {lv:Value} {p xs:List Int} {T:Nat} {last:List (Int × Int)}
theorem items_sk (h:SkAt w d v Ap cp g lv p xs T last):Calls Tryz.prog 39 #[.pointer (some ⟨d,0,none⟩)] w fun e w'=>e=.returned (.int .i64 (xs.length:Int))/\w=w':=by
 have c0:=cell_of (i:=4) h.blk rfl
 clear h
 go_enter Tryz.func39,Tryz.ntmps39
 go_wp2
 go_ret
 exact⟨rfl,rfl⟩
theorem tokens_sk (h:SkAt w d v Ap cp g lv p xs T last):Calls Tryz.prog 40 #[.pointer (some ⟨d,0,none⟩)] w fun e w'=>e=.returned (.int .i64 (T:Int))/\w=w':=by
 have c0:=cell_of (i:=5) h.blk rfl
 clear h
 go_enter Tryz.func40,Tryz.ntmps40
 go_wp2
 go_ret
 exact⟨rfl,rfl⟩
theorem partial_sk (h:SkAt w d v Ap cp g lv p xs T last) (hp:p≠[]) (hl:p.length≤1000):Calls Tryz.prog 41 #[.pointer (some ⟨d,0,none⟩)] w fun e w'=>e=.returned (.int .i64 ((partF p xs:Nat):Int))/\Below w.heap.size w w':=by
 have H:=As.mk h
 have hm:=metF_le p xs
 rw[part_met hp]
 have LD:∀ w':World,Below w.heap.size w w'->w'.cell? ⟨d,0,none⟩=some (.slice Ap p.length cp)/\w'.cell? ⟨d,1,none⟩=some (.slice (some ⟨g,0,none⟩) (p.length+1) (p.length+1))/\w'.cell? ⟨d,3,none⟩=some (.int .i64 ((metF p xs:Nat):Int)):=fun w' hb=>by
  have hh:=(hb.block _ (blk_lt H.out.blk)).trans H.out.blk
  exact⟨cell_of (i:=0) hh rfl,cell_of (i:=1) hh rfl,cell_of (i:=3) hh rfl⟩
 have HLD:=As.mk LD
 clear h LD
 have hq:Below w.heap.size w w:=Below.refl _ _
 by_cases hw:metF p xs=p.length
 ·rw[if_pos hw]
  have HBK:=As.mk (fun(w':World) (hb':Below w.heap.size w w')=>own_cell (H.out.hb.below hb') (bkL_at (p:=p) (Nat.le_refl p.length)))
  clear H
  generalize metF p xs=m at *
  subst hw
  have hd1:((p.length:Int)==(p.length:Int))=true:=by simp
  have hlt:(p.length:Int)<(p.length:Int)+1:=Z1
  go_enter Tryz.func41,Tryz.ntmps41
  go_wp2_with fail
  refine start_ (n:=12) (S:=fun w'=>Below w.heap.size w w') (ds:=[]) #[false,false,false,false,false,false,false,false,false,false,false,false] (Z15) rfl rfl (below_drew1 (Below.refl _ _)) (fun hHeld=>?_)
  have HD3:=As.mk (below_drew1 (Below.refl w.heap.size w));clear hHeld;generalize w.drew=w3 at HD3 ⊢;have hHeld:=HD3.out
  refine pI 0 (some 7) (bs 12 1) ?_
  refine pI 1 (some 8) (bs 12 3) ?_
  refine pI 2 (some 9) (bs 12 7) ?_
  refine pI 4 (some 11) (bs 12 23) ?_
  refine pI 5 (some 12) (bs 12 55) ?_
  refine pI 6 (some 13) (bs 12 119) ?_
  refine pI 7 (some 14) (bs 12 247) ?_
  refine tI 3 (some 10) (bs 12 255) rfl (Z148) hHeld ?_
  refine tI 8 (some 15) (bs 12 511) rfl (Z148) hHeld ?_
  refine pI 9 (some 16) (bs 12 1023) ?_
  refine pI 10 (some 17) (bs 12 2047) ?_
  refine pI 11 (some 6) (bs 12 4095) ?_
  refine done_ (Z15) ?_
  go_wp2_with fail
  refine start_ (n:=12) (S:=fun w'=>Below w.heap.size w w') (ds:=[]) #[false,false,false,false,false,false,false,false,false,false,false,false] (Z15) rfl rfl (below_drew1 HD3.out) (fun hHeld=>?_)
  have HD4:=As.mk (below_drew1 HD3.out);clear hHeld;generalize w3.drew=w4 at HD4 ⊢;have hHeld:=HD4.out
  refine pI 0 (some 18) (bs 12 1) ?_
  refine pI 1 (some 19) (bs 12 3) ?_
  refine pI 2 (some 20) (bs 12 7) ?_
  refine pI 3 (some 21) (bs 12 15) ?_
  refine pI 5 (some 23) (bs 12 47) ?_
  refine pI 6 (some 24) (bs 12 111) ?_
  refine pI 7 (some 25) (bs 12 239) ?_
  refine tI 4 (some 22) (bs 12 255) rfl (Z148) hHeld ?_
  refine tI 8 (some 26) (bs 12 511) rfl (Z148) hHeld ?_
  refine pI 9 (some 27) (bs 12 1023) ?_
  refine tI 10 (some 28) (bs 12 2047) rfl (by intro w' hS';have s0:=hS';have z:=HBK.out w' hS';go_simp;with_reducible rfl) hHeld ?_
  refine pI 11 (some 2) (bs 12 4095) ?_
  refine done_ (Z15) ?_
  go_wp2
  go_ret
  exact⟨rfl,HD4.out⟩
 ·rw[if_neg hw]
  have hd1:(((metF p xs:Nat):Int)==(p.length:Int))=false:=Z6
  clear H
  generalize metF p xs=m at *
  go_enter Tryz.func41,Tryz.ntmps41
  go_wp2_with fail
  refine start_ (n:=12) (S:=fun w'=>Below w.heap.size w w') (ds:=[]) #[false,false,false,false,false,false,false,false,false,false,false,false] (Z15) rfl rfl (below_drew1 (Below.refl _ _)) (fun hHeld=>?_)
  have HD3:=As.mk (below_drew1 (Below.refl w.heap.size w));clear hHeld;generalize w.drew=w3 at HD3 ⊢;have hHeld:=HD3.out
  refine pI 0 (some 7) (bs 12 1) ?_
  refine pI 1 (some 8) (bs 12 3) ?_
  refine pI 2 (some 9) (bs 12 7) ?_
  refine pI 4 (some 11) (bs 12 23) ?_
  refine pI 5 (some 12) (bs 12 55) ?_
  refine pI 6 (some 13) (bs 12 119) ?_
  refine pI 7 (some 14) (bs 12 247) ?_
  refine tI 3 (some 10) (bs 12 255) rfl (Z148) hHeld ?_
  refine tI 8 (some 15) (bs 12 511) rfl (Z148) hHeld ?_
  refine pI 9 (some 16) (bs 12 1023) ?_
  refine pI 10 (some 17) (bs 12 2047) ?_
  refine pI 11 (some 6) (bs 12 4095) ?_
  refine done_ (Z15) ?_
  obtain⟨l0,l1,l3⟩:=HLD.out w3 HD3.out
  go_wp2
  go_ret
  exact⟨rfl,HD3.out⟩
theorem reset_sk (h:SkAt w d v Ap cp g lv p xs T last) (hd:d≤w.heap.size):Calls Tryz.prog 43 #[.pointer (some ⟨d,0,none⟩)] w fun e w'=>e=.returned (.tuple #[])/\SkAt w' d v Ap cp g (.slice none 0 0) p [] 0 []/\Kp d w w':=by
 have b0:=h.blk
 have c3:=cell_of (i:=3) b0 rfl
 have c4:=cell_of (i:=4) b0 rfl
 have c5:=cell_of (i:=5) b0 rfl
 have c6:=cell_of (i:=6) b0 rfl
 have z3:=frozen_of b0 3
 have z4:=frozen_of b0 4
 have z5:=frozen_of b0 5
 have z6:=frozen_of b0 6
 have b1:=blk_put b0 3 (.int .i64 0) rfl
 have b2:=blk_put b1 4 (.int .i64 0) rfl
 have b3:=blk_put b2 5 (.int .i64 0) rfl
 have b4:=blk_put b3 6 (.slice none 0 0) rfl
 have K:=(((Kp.set b0 3 (.int .i64 0)).trans (Kp.set b1 4 (.int .i64 0))).trans (Kp.set b2 5 (.int .i64 0))).trans (Kp.set b3 6 (.slice none 0 0))
 have HK:=As.mk K
 have HB:=As.mk b4
 have HP:=As.mk (K.rw h.hp)
 have HQ:=As.mk (K.rw h.hb)
 have hm:metF p []=0:=by
  have:=(metF_ends p []).len
  simp at this
  exact this
 clear b0 b1 b2 b3 b4 K h
 go_enter Tryz.func43,Tryz.ntmps43
 go_wp2
 go_end0
 exact⟨rfl,⟨by rw[hm];exact HB.out,HP.out,HQ.out,Kd.R_nil _ _ _ _ _⟩,HK.out⟩
def firstF (last:List (Int × Int)) (at_:Int):Int × Int:=(last.reverse.find? (fun x=>decide (x.2≤at_))).getD (0,0)
theorem firstF_take {last:List (Int × Int)} {at_:Int} {j:Nat} {x:Int × Int} (hx:last[j]?=some x):firstF (last.take (j+1)) at_=if x.2≤at_ then x else firstF (last.take j) at_:=by
 unfold firstF
 rw[List.take_add_one,hx]
 simp only[Option.toList_some,List.reverse_append,List.reverse_cons,List.reverse_nil,List.nil_append,List.cons_append,List.find?_cons]
 by_cases h:x.2≤at_
 ·rw[if_pos h,decide_eq_true h];rfl
 ·rw[if_neg h,decide_eq_false h]
theorem first_sk (h:SkAt w d v Ap cp g lv p xs T last) (hl:last.length≤1000000000) (at_:Int):Calls Tryz.prog 102 #[.pointer (some ⟨d,0,none⟩),.int .i64 at_] w fun e w'=>e=.returned (.agg #[.int .i64 (firstF last at_).1,.int .i64 (firstF last at_).2])/\Below w.heap.size w w':=by
 have H:=As.mk h
 obtain⟨Al,cl,hlv⟩:=Kd.R_slice h.hl
 subst hlv
 have HB:=As.mk (below_alloc (Below.refl w.heap.size w) (.cells #[.int .i64 0,.int .i64 0] 179))
 have HN:=As.mk (Go.MapKept.heap_alloc w (.cells #[.int .i64 0,.int .i64 0] 179)).1
 have c6:=cell_of (i:=6) ((HB.out.block _ (blk_lt h.blk)).trans h.blk) rfl
 have hw1:wrap64 ((last.length:Int)-1)=(last.length:Int)-1:=w64 (Z1) (Z1)
 clear h
 go_enter Tryz.func102,Tryz.ntmps102
 go_wp2_with fail
 generalize w.alloc (.cells #[.int .i64 0,.int .i64 0] 179)=w1 at HB HN c6 ⊢
 go_loopg [5] (last.length) (fun k v5 W=>∃ (j:Nat),v5=.int .i64 ((j:Int)-1)/\j≤last.length/\As (j≤k)/\W=w1/\As (firstF (last.take j) at_=firstF last at_))
 case atStart=>exact⟨last.length,rfl,Nat.le_refl _,⟨Nat.le_refl _⟩,rfl,⟨by rw[List.take_length]⟩⟩
 case round =>
  obtain⟨j,rfl,hj,HK,hW,HF⟩:=hrel
  subst hW
  have n0:=cell_of (i:=0) HN.out rfl
  have n1:=cell_of (i:=1) HN.out rfl
  have m0:=frozen_of HN.out 0
  have m1:=frozen_of HN.out 1
  have HZ:=As.mk (fun(a b:Int)=>(And.intro (blk_set (blk_set HN.out 0 (.int .i64 a)) 1 (.int .i64 b)) (((HB.out.setCell (p:=⟨w.heap.size,0,none⟩) (Nat.le_refl _) (.int .i64 a)).setCell (p:=⟨w.heap.size,1,none⟩) (Nat.le_refl _) (.int .i64 b)))))
  rcases Nat.eq_zero_or_pos j with h0|h0
  ·subst h0
   have hneg:¬ (0:Int)≤((0:Nat):Int)-1:=Z1
   have hf:firstF last at_=(0,0):=by rw[←HF.out];rfl
   have HFF:=As.mk hf
   clear c6 hf
   go_wp2
   (try simp only[Exit.inBlock,Exit.then])
   refine bodyPost_ret (results_cell_row (p:=4) (ty:=179) rfl _ _ w.heap.size 179 _ (0,0) _ (by rfl) (HZ.out 0 0).1 Tryz.underlying179 rfl (Z15)) rfl ?_
   exact⟨by rw[HFF.out];rfl,(HZ.out 0 0).2⟩
  ·obtain⟨j1,rfl⟩:∃ j1,j=j1+1:=⟨j-1,Z1⟩
   obtain⟨k1,rfl⟩:∃ k1,gk=k1+1:=⟨gk-1,Z65⟩
   have e:((j1+1:Nat):Int)-1=(j1:Int):=Z1
   rw[e]
   have hlt:j1<last.length:=Z1
   have hltI:(j1:Int)<(last.length:Int):=Z1
   obtain⟨⟨a,b⟩,hx⟩:∃ x,last[j1]?=some x:=⟨_,List.getElem?_eq_getElem hlt⟩
   obtain⟨gl,hA,q0,q1⟩:=pl_cells (Kd.R_below H.out.hl HB.out) hx
   subst hA
   dsimp only at q0 q1
   have hf:=firstF_take (at_:=at_) hx
   rw[HF.out]at hf
   dsimp only at hf
   have hw2:wrap64 ((j1:Int)-1)=(j1:Int)-1:=w64 (Z1) (Z1)
   clear hx HF e
   by_cases hle:b≤at_
   ·rw[if_pos hle]at hf
    have HFF:=As.mk hf
    clear hf
    go_wp2
    (try simp only[Exit.inBlock,Exit.then])
    refine bodyPost_ret (results_cell_row (p:=4) (ty:=179) rfl _ _ w.heap.size 179 _ (0,0) _ (by rfl) (HZ.out a b).1 Tryz.underlying179 rfl (Z15)) rfl ?_
    exact⟨by rw[HFF.out];rfl,(HZ.out a b).2⟩
   ·rw[if_neg hle]at hf
    have HF2:=As.mk hf.symm
    clear hf
    go_wp2
    go_roundg k1
    case measure=>have:=HK.out;omega
    case rel=>exact⟨j1,rfl,Z1,⟨Z65⟩,rfl,HF2⟩
end
end Go.Proofs.YtkffhgiiejbnaaaGreat.Sk
namespace Go.Proofs.YtkffhgiiejbnaaaGreat.Sk
open Go.Shelf Go.RowKit YtkffhgiiejbnaaaGreatW.PrintWords YtkffhgiiejbnaaaGreatW.PrintLast YtkffhgiiejbnaaaGreatW.PrintMore Rf Aid Mp Hp Tk Vc En Go.Proofs.YtkffhgiiejbnaaaGreat.Fn
def wrongK (s:Vc.Sp) (n:Int):Bool:=decide (256≤n) || decide (n < -(s.X.length:Int))
theorem metF_nil (p:List Int):metF p []=0:=by
 have:=(metF_ends p []).len
 simp at this
 exact this
theorem cloNew {W:World} {b v:Nat} {s:Vc.Sp} (hv:VocAt W v s) (hc:W.cell? ⟨b,0,none⟩=some (.pointer (some ⟨v,0,none⟩))) (n:Int) :
  Calls Tryz.prog 79 (#[encI n]++#[.pointer (some ⟨b,0,none⟩)]) W fun e W'=>e=.returned (.bool (wrongK s n))/\Below W.heap.size W W':=by
 have H:=As.mk hv
 clear hv
 unfold encI wrongK
 show Calls Tryz.prog 79 #[.int .i64 n,.pointer (some ⟨b,0,none⟩)] W _
 by_cases h0:256≤n
 ·rw[show (decide (256≤n) || decide (n < -(s.X.length:Int)))=true by simp[h0]]
  go_enter Tryz.func79,Tryz.ntmps79
  go_wp2
  go_ret
  exact⟨rfl,Below.refl _ _⟩
 ·rw[show (decide (256≤n) || decide (n < -(s.X.length:Int)))=decide (n < -(s.X.length:Int)) by simp[h0]]
  have hfew:(s.X.length:Int)≤32:=by
   obtain⟨_,_,w0,pt,pb,pm,h1,h2,h3,h4,h5,h6,h7,h8⟩:=H.out
   have:=h5.few;omega
  have hs0:(0:Int)≤(s.X.length:Int):=Z1
  go_enter Tryz.func79,Tryz.ntmps79
  go_wp2_with (first
   | (go_at_call 67;refine(marks_any H.out).mono ?_;rintro e w1 ⟨pm,rfl,hm,rfl⟩;obtain⟨_,_,_,_,⟨A,c,hl,_,_⟩,_⟩:=hm)
   | (go_at_call 80;refine(Mk.len_any pm s.X.length c A _ hl).mono ?_;rintro e w2 ⟨rfl,rfl⟩))
  go_ret
  exact⟨rfl,Below.refl _ _⟩
section
variable {w:World} {v:Nat} {s:Vc.Sp}
theorem new_empty (v:Nat) (A:Option Addr) (c:Nat) (w:World):Calls Tryz.prog 37 #[.pointer (some ⟨v,0,none⟩),.slice A 0 c] w fun e w'=>e=.returned (.tuple #[.pointer none,.int .i64 0,.int .i64 1])/\Below w.heap.size w w':=by
 have HB:=As.mk (below_alloc (Below.refl w.heap.size w) (.cells #[.pointer (some ⟨v,0,none⟩)] 30))
 go_enter Tryz.func37,Tryz.ntmps37
 go_wp2
 go_ret3
 exact⟨rfl,HB.out⟩
theorem new_long (v:Nat) (A:Option Addr) (n c:Nat) (w:World) (hn:64<n):Calls Tryz.prog 37 #[.pointer (some ⟨v,0,none⟩),.slice A n c] w fun e w'=>e=.returned (.tuple #[.pointer none,.int .i64 0,.int .i64 3])/\Below w.heap.size w w':=by
 have HB:=As.mk (below_alloc (Below.refl w.heap.size w) (.cells #[.pointer (some ⟨v,0,none⟩)] 30))
 have hg:(64:Int)<(n:Int):=Z1
 have h0:((n:Int)==0)=false:=Z6
 go_enter Tryz.func37,Tryz.ntmps37
 go_wp2
 go_ret3
 exact⟨rfl,HB.out⟩
theorem new_any (hv:VocAt w v s) {A:Option Addr} {c:Nat} {p:List Int} (hr:Kd.C (Kd.int .i64) w A p.length p) (hc:p.length≤c) (hp:p≠[]) (hl:p.length≤64) :
  Calls Tryz.prog 37 #[.pointer (some ⟨v,0,none⟩),.slice A p.length c] w fun e w'=>Below w.heap.size w w'/\(match p.findIdx? (wrongK s) with
   | some i=>e=.returned (.tuple #[.pointer none,.int .i64 (i:Int),.int .i64 2])
   | none=>∃ (d:Nat) (Ap:Option Addr) (cp g:Nat),e=.returned (.tuple #[.pointer (some ⟨d,0,none⟩),.int .i64 (p.length:Int),.int .i64 0])/\SkAt w' d v Ap cp g (.slice none 0 0) p [] 0 []/\w.heap.size≤d/\d<w'.heap.size):=by
 have hpos:=List.length_pos_iff.2 hp
 have HB:=As.mk (below_alloc (Below.refl w.heap.size w) (.cells #[.pointer (some ⟨v,0,none⟩)] 30))
 have c0:=box_of w (.pointer (some ⟨v,0,none⟩)) 30
 have hN:=(Go.MapKept.heap_alloc w (.cells #[.pointer (some ⟨v,0,none⟩)] 30 (0,0))).1
 have b0:=blk_lt hN
 have hi:=idxI A c p 79 #[.pointer (some ⟨w.heap.size,0,none⟩)] (wrongK s) (enters_of Tryz.func79 (Z15) rfl) (w.alloc (.cells #[.pointer (some ⟨v,0,none⟩)] 30)) (Kd.C_below hr HB.out) (Z1)
  (fun W hW x hx=>cloNew (hv.below (HB.out.trans (hW.mono HB.out.size))) (pw_cell_below hW c0) x)
 have HI:=As.mk hi
 have HR:=As.mk hr
 have HP:=As.mk hp
 have HL:=As.mk hl
 have HN:=As.mk hN
 have hg:¬ (64:Int)<(p.length:Int):=Z1
 have h0:((p.length:Int)==0)=false:=Z6
 clear hr hp hi hv hN
 cases hw:p.findIdx? (wrongK s) with
 | some i =>
  rw[hw]at HI
  unfold ix at HI
  simp only at HI ⊢
  have hi0:(0:Int)≤(i:Int):=Z1
  clear hw
  go_enter Tryz.func37,Tryz.ntmps37
  go_wp2_with (go_at_call 59;refine HI.out.mono ?_;rintro e w1 ⟨rfl,hb⟩;have HB1:=As.mk (HB.out.trans (hb.mono HB.out.size));clear hb)
  go_ret3
  exact⟨HB1.out,rfl⟩
 | none =>
  rw[hw]at HI
  unfold ix at HI
  simp only at HI ⊢
  clear hw
  go_enter Tryz.func37,Tryz.ntmps37
  go_wp2_with (go_at_call 59;refine HI.out.mono ?_;rintro e w1 ⟨rfl,hb⟩;have HB1:=As.mk (HB.out.trans (hb.mono HB.out.size));have HN1:=As.mk ((hb.block _ (blk_lt HN.out)).trans HN.out);clear hb c0 b0)
  refine start_ (n:=10) (S:=fun w'=>Below w1.heap.size w1 w') (ds:=[]) #[false,false,false,false,false,false,false,false,false,false] (Z15) rfl rfl (below_drew1 (Below.refl _ _)) (fun hHeld=>?_)
  have HD3:=As.mk (below_drew1 (Below.refl w1.heap.size w1));clear hHeld;generalize w1.drew=w3 at HD3 ⊢;have hHeld:=HD3.out
  refine pI 0 (some 26) (bs 10 1) ?_
  refine pI 5 (some 31) (bs 10 33) ?_
  refine pI 6 (some 32) (bs 10 97) ?_
  refine tI 2 (some 28) (bs 10 101) rfl (by intro w' hS';have s0:=hS';have z:=cell_of0 ((hS'.block _ (blk_lt HN1.out)).trans HN1.out);go_simp;with_reducible rfl) hHeld ?_
  refine one_ (i:=1) (N:=some 27) (bs 10 103) rfl rfl (Z15) (Z31) (fun K hK=>?_)
  refine goes_ Tryz.func81 (Z15) rfl #[.slice A p.length c] (by rfl) rfl rfl (Z101) ?_
  refine(of_any HP.out (Z126) w3 (Kd.C_below HR.out (HB1.out.trans (HD3.out.mono HB1.out.size)))).mono ?_
  rintro e w4 ⟨Ap,cp,g,rfl,h1,h2,hb⟩
  have HA4:=As.mk h1
  have HG4:=As.mk h2
  have HD4:=As.mk (bt_ HD3.out hb)
  clear h1 h2 hb
  refine⟨_,rfl,?_⟩
  refine hK.out _ _ HD4.out (fun hHeld=>?_)
  clear hK K
  refine nI ?_
  refine pI 3 (some 29) (bs 10 111) ?_
  refine one_ (i:=4) (N:=some 30) (bs 10 127) rfl rfl (Z15) (Z31) (fun K hK=>?_)
  refine value_ (w1:=w4.alloc (.cells #[.slice Ap p.length cp,.slice (some ⟨g,0,none⟩) (p.length+1) (p.length+1),.pointer (some ⟨v,0,none⟩),.int .i64 0,.int .i64 0,.int .i64 0,.slice none 0 0] 119)) (v:=.pointer (some ⟨w4.heap.size,0,none⟩)) (by rfl) rfl ?_ ?_
  ·first|(go_simp;done)|(go_simp;rfl)
  have HN5:=As.mk (Go.MapKept.heap_alloc w4 (.cells #[.slice Ap p.length cp,.slice (some ⟨g,0,none⟩) (p.length+1) (p.length+1),.pointer (some ⟨v,0,none⟩),.int .i64 0,.int .i64 0,.int .i64 0,.slice none 0 0] 119)).1
  have HB5:=As.mk (below_alloc (Below.refl w4.heap.size w4) (.cells #[.slice Ap p.length cp,.slice (some ⟨g,0,none⟩) (p.length+1) (p.length+1),.pointer (some ⟨v,0,none⟩),.int .i64 0,.int .i64 0,.int .i64 0,.slice none 0 0] 119))
  have HD5:=As.mk (bt_ HD4.out HB5.out)
  refine hK.out _ _ HD5.out (fun hHeld=>?_)
  clear hK K
  refine nI ?_
  refine pI 7 (some 4) (bs 10 255) ?_
  refine pI 8 (some 5) (bs 10 511) ?_
  refine pI 9 (some 6) (bs 10 1023) ?_
  refine done_ (Z15) ?_
  go_wp2
  go_ret3
  exact⟨bt_ HB1.out HD5.out,w4.heap.size,Ap,cp,g,rfl,⟨by rw[metF_nil];exact HN5.out,HA4.out.below HB5.out,HG4.out.below HB5.out,Kd.R_nil _ _ _ _ _⟩,by have h1:=HB1.out.size;have h2:=HD4.out.size;omega,blk_lt HN5.out⟩
theorem text_any (hv:VocAt w v s) (t:ByteArray) (h0:0<t.size) (hl:t.size≤64):Calls Tryz.prog 26 #[.pointer (some ⟨v,0,none⟩),.string t] w fun e w'=>∃ (d:Nat) (Ap:Option Addr) (cp g:Nat),e=.returned (.tuple #[.pointer (some ⟨d,0,none⟩),.int .i64 0])/\SkAt w' d v Ap cp g (.slice none 0 0) (Mk.parseP [] t) [] 0 []/\w.heap.size≤d/\d<w'.heap.size/\Below w.heap.size w w':=by
 have HV:=As.mk hv
 have hpl:=parse_len [] t
 have hfi:(Mk.parseP [] t).findIdx? (wrongK s)=none:=List.findIdx?_eq_none_iff.2 (fun x hx=>by
  unfold wrongK
  rcases parseF_item _ _ x hx with h|h
  ·simp;omega
  ·have h2:=h.2;simp only[List.length_nil]at h2;omega)
 have hne:Mk.parseP [] t≠[]:=by
  unfold Mk.parseP
  obtain⟨n,hn⟩:∃ n,t.size=n+1:=⟨t.size-1,Z1⟩
  rw[hn,Mk.parseF_byte (Z1) (atP_none _)]
  simp
 have HN:=As.mk (fun(W:World) (hv':VocAt W v s) (A:Option Addr) (c:Nat) (h:Kd.C (Kd.int .i64) W A (Mk.parseP [] t).length (Mk.parseP [] t)) (hc:(Mk.parseP [] t).length≤c)=>(by
  have h:=new_any hv' h hc hne (Z1)
  rw[hfi]at h
  exact h:Calls Tryz.prog 37 #[.pointer (some ⟨v,0,none⟩),.slice A (Mk.parseP [] t).length c] W fun e w'=>Below W.heap.size W w'/\∃ (d:Nat) (Ap:Option Addr) (cp g:Nat),e=.returned (.tuple #[.pointer (some ⟨d,0,none⟩),.int .i64 ((Mk.parseP [] t).length:Int),.int .i64 0])/\SkAt w' d v Ap cp g (.slice none 0 0) (Mk.parseP [] t) [] 0 []/\W.heap.size≤d/\d<w'.heap.size))
 have HBY:=As.mk (fun(W:World)=>bytes_any t W (Z1))
 clear hv hfi hne hpl
 generalize Mk.parseP [] t=B at *
 go_enter Tryz.func26,Tryz.ntmps26
 go_wp2_with (first
  | (go_at_call 28;refine(HBY.out _).mono ?_;rintro e w1 ⟨sv,rfl,ho,hb⟩;have HB1:=As.mk hb;obtain⟨A,c,rfl,hc,hC⟩:=Kd.R_reads ho;have HC:=As.mk hC;have HCC:=As.mk hc;clear hb ho hc hC)
  | (go_at_call 37;refine(HN.out _ (HV.out.below HB1.out) A c HC.out HCC.out).mono ?_;rintro e w2 ⟨hb,d,Ap,cp,g,rfl,hs,hd,hd2⟩;have HB2:=As.mk (bt_ HB1.out hb);have HS:=As.mk hs;have HD:=As.mk (And.intro hd hd2);clear hb hs hd hd2))
 go_ret2
 exact⟨d,Ap,cp,g,rfl,HS.out,Nat.le_trans HB1.out.size HD.out.1,HD.out.2,HB2.out⟩
end
end Go.Proofs.YtkffhgiiejbnaaaGreat.Sk
namespace Go.Proofs.YtkffhgiiejbnaaaGreat.Sk
open Go.Shelf Go.RowKit YtkffhgiiejbnaaaGreatW.PrintWords YtkffhgiiejbnaaaGreatW.PrintLast YtkffhgiiejbnaaaGreatW.PrintMore Rf Aid Mp Hp Tk Vc En
def encPl (l:List (Int × Int)):List Value:=l.flatMap (fun x=>[.int .i64 x.1,.int .i64 x.2])
theorem encPl_len:∀ l:List (Int × Int),(encPl l).length=l.length * 2
 | []=>rfl
 | x::l=>by
  have:=encPl_len l
  unfold encPl at this ⊢
  rw[List.flatMap_cons,List.length_append,this,List.length_cons]
  simp
  omega
theorem encPl_one {l:List (Int × Int)}:∀ u∈encPl l,u.oneCell'=true:=fun u hu=>by
 unfold encPl at hu
 obtain⟨x,_,hx⟩:=List.mem_flatMap.1 hu
 rcases List.mem_cons.1 hx with e|hx
 ·rw[e];rfl
 ·rw[List.mem_singleton.1 hx];rfl
theorem reps_pl {R:(Int × Int)->List Value->Prop} (hR:∀ x cs,R x cs->cs=[.int .i64 x.1,.int .i64 x.2]):∀ (l:List (Int × Int)) (cs:List Value),Reps R 2 l cs->cs=encPl l
 | [],cs,h=>List.eq_nil_of_length_eq_zero (by rw[h.1];rfl)
 | x::l,cs,h=>by
  have h0:=hR _ _ (h.2 0 x rfl)
  rw[Nat.zero_mul,List.drop_zero]at h0
  have hl:Reps R 2 l (cs.drop 2):=⟨by rw[List.length_drop,h.1,List.length_cons];omega,fun j p hj=>by
   have:=h.2 (j+1) p (by simpa using hj)
   rw[List.drop_drop,show 2+j * 2=(j+1) * 2 from Z1]
   exact this⟩
  have ih:=reps_pl hR l _ hl
  rw[←List.take_append_drop 2 cs,h0,ih]
  rfl
theorem reps_enc {R:(Int × Int)->List Value->Prop} (hR:∀ x,R x [.int .i64 x.1,.int .i64 x.2]):∀ l:List (Int × Int),Reps R 2 l (encPl l)
 | []=>Reps.none _ _
 | x::l=>by
  have ih:=reps_enc hR l
  refine⟨encPl_len _,fun j p hj=>?_⟩
  cases j with
  | zero =>
   injection hj with hj
   subst hj
   exact hR _
  | succ j =>
   have:=ih.2 j p (by simpa using hj)
   show R p (((.int .i64 x.1::.int .i64 x.2::encPl l:List Value).drop ((j+1) * 2)).take 2)
   rw[show (j+1) * 2=j * 2+1+1 from Z1,List.drop_succ_cons,List.drop_succ_cons]
   exact this
theorem encPl_drop:∀ (l:List (Int × Int)) (i:Nat),encPl (l.drop i)=(encPl l).drop (i * 2)
 | l,0=>rfl
 | [],i+1=>by simp[encPl]
 | x::l,i+1=>by
  rw[List.drop_succ_cons,encPl_drop l i,show (i+1) * 2=i * 2+1+1 from Z1]
  show _=(.int .i64 x.1::.int .i64 x.2::encPl l:List Value).drop (i * 2+1+1)
  rw[List.drop_succ_cons,List.drop_succ_cons]
theorem own_of_pl {w:World} {base n c g:Nat} {ok:Nat->Prop} {l:List (Int × Int)} (h:Kd.R kPl 179 w base ok (.slice (some ⟨g,0,none⟩) n c) l):w.ownsRow base 179 2 (.slice (some ⟨g,0,none⟩) n c) n (encPl l):=by
 obtain⟨hn,_,_⟩:=Kd.R_reads' h
 obtain⟨_,inner,ho,hr⟩:=h
 have:=reps_pl (fun x cs h=>h) l inner hr
 subst this
 rw[←hn]at ho
 exact ho
theorem pl_of_own {w:World} {base n c g:Nat} {l:List (Int × Int)} (h:w.ownsRow base 179 2 (.slice (some ⟨g,0,none⟩) n c) n (encPl l)) (hn:n=l.length):Kd.R kPl 179 w base (fun _=>True) (.slice (some ⟨g,0,none⟩) n c) l :=
 ⟨fun _ _=>trivial,encPl l,by rw[←hn];exact h,(reps_enc (R:=fun x cs=>cs=[.int .i64 x.1,.int .i64 x.2]) (fun x=>rfl) l)⟩
theorem under_pl:Tryz.prog.underlying 117=some (.slice 179):=Tryz.underlying117
theorem elem_pl:Tryz.prog.elem 117=179:=Z15
theorem under_pl':Tryz.prog.underlying 117=some (.slice (Tryz.prog.elem 117)):=by rw[elem_pl];exact under_pl
theorem size_pl (W:World):(sizeOf (Tryz.prog.elem 117)).run Tryz.prog W=.ok 2 W:=by
 rw[elem_pl]
 obtain⟨i,hi,hsz⟩:=Option.map_eq_some_iff.1 info_pl
 injection hsz with _ hsz
 injection hsz with hsz _
 simp[sizeOf,typeInfo,hi,hsz]
section
variable {g n c i m:Nat}
theorem del_s0 (hn:n≤c) (hi:i≤n) (W:World):∃ x,(Instr.slice 117 (.slice (some ⟨g,0,none⟩) n c) (some (.int .i64 0)) (some (.int .i64 (i:Int))) (some (.int .i64 (n:Int)))).run Tryz.prog W=.ok x W:=by
 rw[run_slice_lhm W 117 _ n c under_pl' .i64 .i64 .i64 0 (i:Int) (n:Int) (Z1) (Z1) (Z1) (Z1),size_pl]
 exact⟨_,rfl⟩
theorem del_s1 (W:World):(Instr.slice 117 (.slice (some ⟨g,0,none⟩) n c) none (some (.int .i64 0)) none).run Tryz.prog W=.ok (.slice (some ⟨g,0,none⟩) 0 c) W:=by
 rw[run_slice_h W 117 _ n c under_pl' .i64 0 (Z1) (Z1),size_pl]
 simp only[Result.andThen,sliced]
 congr 2
 split <;> simp[Addr.add]
theorem del_s2 (hn:n≤c) (hm:n=m+i) (hm0:0<m) (W:World):(Instr.slice 117 (.slice (some ⟨g,0,none⟩) n c) (some (.int .i64 (i:Int))) none none).run Tryz.prog W=.ok (.slice (some ⟨g,i * 2,none⟩) m (c-i)) W:=by
 rw[run_slice_l W 117 _ n c under_pl' .i64 (i:Int) (Z1) (Z1),size_pl]
 simp only[Result.andThen,sliced,Int.toNat_natCast]
 rw[if_neg (Z1),show n-i=m from Z1]
 congr 2
 simp only[Option.map_some]
 unfold Addr.add
 split <;> simp_all
theorem del_s3 (hn:n≤c) (hm:n=m+i) (hi:0<i) (W:World):(Instr.slice 117 (.slice (some ⟨g,0,none⟩) m c) (some (.int .i64 (m:Int))) (some (.int .i64 (n:Int))) none).run Tryz.prog W=.ok (.slice (some ⟨g,m * 2,none⟩) i (c-m)) W:=by
 rw[run_slice_lh W 117 _ m c under_pl' .i64 .i64 (m:Int) (n:Int) (Z1) (Z1) (Z1),size_pl]
 simp only[Result.andThen,sliced,Int.toNat_natCast]
 rw[if_neg (Z1),show n-m=i from Z1]
 congr 2
 simp only[Option.map_some]
 unfold Addr.add
 split <;> simp_all
end
theorem zero_pl (n:Nat):(Builtin.zeroCells #[.int .i64 0,.int .i64 0] n).toList=List.replicate (n * 2) (.int .i64 0):=by
 apply List.ext_getElem
 ·simp[Builtin.zeroCells]
 ·intro i h1 h2
  simp only[Builtin.zeroCells,List.getElem_replicate,Array.getElem_toList,Array.getElem_map,Array.getElem_range]
  have h:i % 2=0\/i % 2=1:=Z1
  show (#[Value.int .i64 0,Value.int .i64 0])[i % 2]! = _
  rcases h with h|h <;> rw[h] <;> rfl
theorem own_zero {w:World} {base e size n c g:Nat} {inner:List Value} (h:w.ownsRow base e size (.slice (some ⟨g,0,none⟩) n c) n inner):w.ownsRow base e size (.slice (some ⟨g,0,none⟩) 0 c) 0 []:=by
 obtain⟨h1,h2⟩:=h
 rcases h2 with⟨e,_⟩|⟨g',cap,cur,e,hb,hg,hn,hcm,hs,ht⟩
 ·cases e
 ·injection e with e1 e2 e3
  injection e1 with e1
  injection e1 with e1
  subst e1
  subst e3
  exact⟨by simp,.inr ⟨g,c,cur,rfl,hb,hg,Nat.zero_le _,hcm,hs,by simp⟩⟩
theorem own_read {w:World} {base e size n c g:Nat} {inner:List Value} (h:w.ownsRow base e size (.slice (some ⟨g,0,none⟩) n c) n inner) {j:Nat} {u:Value} (hj:inner[j]?=some u):w.cell? ⟨g,j,none⟩=some u:=by
 obtain⟨h1,h2⟩:=h
 rcases h2 with⟨e,_⟩|⟨g',cap,cur,e,hb,hg,hn,hcm,hs,ht⟩
 ·cases e
 ·injection e with e1 e2 e3
  injection e1 with e1
  injection e1 with e1
  subst e1
  have hlt:=(List.getElem?_eq_some_iff.1 hj).1
  rw[←ht,List.getElem?_take,if_pos (Z1),Array.getElem?_toList]at hj
  simp only[World.cell?,hg]
  exact hj
theorem clear_pl {w:World} {base g m c i:Nat} {inner:List Value} (h:w.ownsRow base 179 2 (.slice (some ⟨g,0,none⟩) m c) m inner) (hi:0<i) (hc:m+i≤c) (ty:TypeId) (k:Nat) :
  ∃ w',(Builtin.clear_ #[117] ty #[.slice (some ⟨g,m * 2,none⟩) i k]).run Tryz.prog w=.ok (.tuple #[]) w'/\w'.ownsRow base 179 2 (.slice (some ⟨g,0,none⟩) m c) m inner/\w.grownBy w' (some g):=by
 obtain⟨h1,h2⟩:=h
 rcases h2 with⟨e,_⟩|⟨g',cap,cur,e,hb,hg,hn,hcm,hs,ht⟩
 ·cases e
 ·injection e with e1 e2 e3
  injection e1 with e1
  injection e1 with e1
  subst e1
  subst e3
  have hst:=run_storeCells_at (P:=Tryz.prog) g (m * 2) 179 (List.replicate (i * 2) (.int .i64 0)) 0 cur w hg (Z86) (fun v hv=>by rw[List.eq_of_mem_replicate hv];rfl)
  obtain⟨q,rfl⟩:∃ q,i=q+1:=⟨i-1,Z1⟩
  refine⟨w.setRow g (cur.toList.take (m * 2+0)++List.replicate ((q+1) * 2) (Value.int .i64 0)++cur.toList.drop (m * 2+0+(List.replicate ((q+1) * 2) (Value.int .i64 0)).length)).toArray,?_,⟨h1,.inr ⟨g,c,_,rfl,hb,setRow_heap w g cur _ 179 _ hg,hn,hcm,?_,?_⟩⟩,⟨rfl,rfl,rfl,by simp,fun k _ hk=>setRow_other w g k _ (fun e=>hk (by simp[e]))⟩⟩
  ·have hz:∀ W:World,(zeroValue 179).run Tryz.prog W=.ok (.agg #[.int .i64 0,.int .i64 0]) W:=Tryz.zeroValue179
   simp[Builtin.clear_,run_underlying under_pl,hz,Value.cells,zero_pl,hst]
  ·simp only[List.size_toArray,List.length_append,List.length_take,List.length_drop,List.length_replicate,Array.length_toList]
   omega
  ·rw[Nat.add_zero]
   simp only[List.append_assoc]
   rw[List.take_append_of_le_length (by rw[List.length_take,Array.length_toList];omega),List.take_take,Nat.min_self]
   exact ht
theorem app_run {P:Program} {oi:Oper} {a:Act} {W W':World} {t:TypeId} {s x:Operand} {v xv u:Value} (ho:oi.op=.call { callee:=.builtin .append,args:=#[s,x],argTypes:=#[t,t] }) (hs:a.eval s=v) (hx:a.eval x=xv) (hr:(Builtin.append_ #[t,t] oi.type #[v,xv]).run P W=.ok u W'):(execOp a.eval oi).run P W=.ok (.value u) W':=by
 unfold execOp
 simp only[ho,resolve,invoke,builtin,Sem.run_bind,Sem.run_pure,Result.andThen_ok,List.map_toArray,List.map_cons,List.map_nil,hs,hx,hr]
theorem delete_pl {w:World} {d g n c i m:Nat} {last:List (Int × Int)} (h:Kd.R kPl 179 w d (fun _=>True) (.slice (some ⟨g,0,none⟩) n c) last) (hi:0<i) (hm:n=m+i) (hm0:0<m) (hd:d≤w.heap.size) :
  Calls Tryz.prog 134 #[.slice (some ⟨g,0,none⟩) n c,.int .i64 0,.int .i64 (i:Int)] w fun e w'=>e=.returned (.slice (some ⟨g,0,none⟩) m c)/\Kd.R kPl 179 w' d (fun _=>True) (.slice (some ⟨g,0,none⟩) m c) (last.drop i)/\Kp d w w'/\∀ k,k≠g->k<w.heap.size->w'.heap[k]?=w.heap[k]?:=by
 have H:=As.mk h
 have hC:=Kd.R_reads' h
 have hn:=hC.2.1
 have HLN:=As.mk hC.1
 have HMX:=As.mk hC.2.2.2.1
 have HM:=As.mk hm
 have HD:=As.mk hd
 obtain⟨x0,hx0⟩:∃ x:World->Value,∀ W,(Instr.slice 117 (.slice (some ⟨g,0,none⟩) n c) (some (.int .i64 0)) (some (.int .i64 (i:Int))) (some (.int .i64 (n:Int)))).run Tryz.prog W=.ok (x W) W :=
  ⟨fun W=>Classical.choose (del_s0 (g:=g) (i:=i) hn (Z1) W),fun W=>Classical.choose_spec (del_s0 (g:=g) (i:=i) hn (Z1) W)⟩
 have hs1:=del_s1 (g:=g) (n:=n) (c:=c)
 have hs2:=del_s2 (g:=g) hn hm hm0
 have hs3:=del_s3 (g:=g) hn hm hi
 have hne:((0:Int)==(i:Int))=false:=Z6
 have hown:=own_of_pl h
 have HOWN:=As.mk hown
 clear h hC hown hm hd
 go_enter Tryz.func134,Tryz.ntmps134
 go_wp2_with fail
 refine start_ (n:=8) (S:=fun _=>True) (ds:=[]) #[false,false,false,false,false,false,false,false] (Z15) rfl rfl (trivial) (fun hHeld=>?_)
 have HD3:=As.mk (below_drew1 (Below.refl w.heap.size w));clear hHeld;generalize w.drew=w3 at HD3 ⊢;have hHeld:=trivial
 refine pI 0 (some 20) (bs 8 1) ?_
 refine pI 1 (some 21) (bs 8 3) ?_
 refine pI 2 (some 22) (bs 8 7) ?_
 refine pI 3 (some 23) (bs 8 15) ?_
 refine pI 4 (some 24) (bs 8 31) ?_
 refine pI 5 (some 25) (bs 8 63) ?_
 refine one_ (i:=6) (N:=some 26) (bs 8 127) rfl rfl (Z15) (Z31) (fun K hK=>?_)
 have hown3:=own_of_pl (Kd.R_below H.out HD3.out)
 obtain⟨i0,hi0,hz0⟩:=Option.map_eq_some_iff.1 info_pl
 have hsz0:i0.size=2:=by injection hz0 with _ hz0;injection hz0 with hz0 _
 obtain⟨w5,hrun,hown5,hg5⟩:=run_append_fits w3 d 117 117 179 i0 2 under_pl hi0 hsz0 g 0 c [] (own_zero hown3) ⟨g,i * 2,none⟩ m (c-i) ((encPl last).drop (i * 2)) (by rw[List.length_drop,encPl_len];have h1:=HLN.out;have h2:=HM.out;omega) (fun j u hj=>(by rw[List.getElem?_drop]at hj;rw[show (⟨g,i * 2,none⟩:Addr).add j=⟨g,i * 2+j,none⟩ from Z0];exact own_read hown3 hj)) (fun u hu=>encPl_one u (List.mem_of_mem_drop hu)) (by have h2:=HM.out;omega)
 rw[Nat.zero_add,List.nil_append]at hown5
 rw[Nat.zero_add]at hrun
 refine value_ (w1:=w5) (v:=.slice (some ⟨g,0,none⟩) m c) (by rfl) rfl ?_ ?_
 ·exact app_run (t:=117) (s:=.tmp 22) (x:=.tmp 25) (by rfl) (by rfl) (by rfl) hrun
 have HO5:=As.mk hown5
 have HK5:=As.mk ((Kp.of HD3.out HD.out).trans (Kp.grow (Kd.R_below H.out HD3.out) hg5 (Nat.le_trans HD.out HD3.out.size)))
 have HK53:=As.mk (Nat.le_trans (Nat.le_trans HD.out HD3.out.size) hg5.size)
 have HZ5:=As.mk (fun(k:Nat) (hk:k≠g) (hl:k<w.heap.size)=>(hg5.block k (Nat.lt_of_lt_of_le hl HD3.out.size) (fun e=>hk (Z146))).trans (HD3.out.block k hl))
 have HZS:=As.mk (Nat.le_trans HD3.out.size hg5.size)
 clear hown3 hown5 hrun hg5 hi0 hz0 hsz0
 refine hK.out _ _ trivial (fun _=>?_)
 clear hK K
 refine nI ?_
 refine pI 7 (some 0) (bs 8 255) ?_
 refine done_ (Z15) ?_
 obtain⟨w6,hrun6,hown6,hg6⟩:=clear_pl HO5.out hi (by have h2:=HM.out;omega) 0 (c-m)
 have HR6:=As.mk (pl_of_own (l:=last.drop i) (by rw[encPl_drop];exact hown6) (Z149))
 have HK6:=As.mk (HK5.out.trans (Kp.grow (lv:=.slice (some ⟨g,0,none⟩) m c) (pl_of_own (l:=last.drop i) (by rw[encPl_drop];exact HO5.out) (Z149)) hg6 HK53.out))
 have HZ6:=As.mk (fun(k:Nat) (hk:k≠g) (hl:k<w.heap.size)=>(hg6.block k (Nat.lt_of_lt_of_le hl HZS.out) (fun e=>hk (Z146))).trans (HZ5.out k hk hl))
 clear hown6 hg6
 go_wp2
 go_ret
 exact⟨rfl,HR6.out,HK6.out,HZ6.out⟩
end Go.Proofs.YtkffhgiiejbnaaaGreat.Sk
namespace Go.Proofs.YtkffhgiiejbnaaaGreat.Sk
open Go.Shelf Go.RowKit YtkffhgiiejbnaaaGreatW.PrintWords YtkffhgiiejbnaaaGreatW.PrintLast YtkffhgiiejbnaaaGreatW.PrintMore Rf Aid Mp Hp Tk Vc En
def forgetN (pl it:Int):List (Int × Int)->Nat
 | _::b::l=>if b.2+pl≤it then forgetN pl it (b::l)+1 else 0
 | _=>0
def forgetL (pl it:Int) (last:List (Int × Int)):List (Int × Int):=last.drop (forgetN pl it last)
theorem forgetN_drop {pl it:Int} {l:List (Int × Int)} {i:Nat} {x:Int × Int} (hx:l[i+1]?=some x):forgetN pl it (l.drop i)=if x.2+pl≤it then forgetN pl it (l.drop (i+1))+1 else 0:=by
 obtain⟨hl,hx'⟩:=List.getElem?_eq_some_iff.1 hx
 rw[List.drop_eq_getElem_cons (show i<l.length from Z1),List.drop_eq_getElem_cons hl,hx']
 rfl
theorem forgetN_end {pl it:Int} {l:List (Int × Int)} {i:Nat} (hi:l.length≤i+1):forgetN pl it (l.drop i)=0:=by
 cases hd:l.drop i with
 | nil=>rfl
 | cons a r =>
  have:=congrArg List.length hd
  rw[List.length_drop,List.length_cons]at this
  obtain rfl:r=[]:=List.eq_nil_of_length_eq_zero (Z1)
  rfl
theorem delete_zero {A:Option Addr} {n c:Nat} (hn:n≤c) (w:World):Calls Tryz.prog 134 #[.slice A n c,.int .i64 0,.int .i64 0] w fun e w'=>e=.returned (.slice A n c)/\w=w':=by
 obtain⟨x0,hx0⟩:∃ x:Value,∀ W,(Instr.slice 117 (.slice A n c) (some (.int .i64 0)) (some (.int .i64 0)) (some (.int .i64 (n:Int)))).run Tryz.prog W=.ok x W :=
  ⟨sliced A 0 0 n 2,fun W=>by
   rw[run_slice_lhm W 117 _ n c under_pl' .i64 .i64 .i64 0 0 (n:Int) (Z1) (Z1) (Z1) (Z1),size_pl]
   rfl⟩
 go_enter Tryz.func134,Tryz.ntmps134
 go_wp2
 go_ret
 exact⟨rfl,rfl⟩
theorem pl_ne {W:World} {base g n c b t:Nat} {ok:Nat->Prop} {l:List (Int × Int)} {cs:Array Value} (h:Kd.R kPl 179 W base ok (.slice (some ⟨g,0,none⟩) n c) l) (hb:W.heap[b]?=some (.cells cs t (0,0))) (ht:t≠179):b≠g:=by
 rintro rfl
 obtain⟨_,_,_,q,hq,cells,hc⟩:=(Kd.R_bound h).1 b rfl
 rw[hb]at hc
 injection hc with hc
 injection hc with _ ht' _
 exact ht (ht'.trans (by simpa[show kPl.E=[] from rfl] using hq))
theorem SkAt.kp {w w':World} {d v:Nat} {Ap:Option Addr} {cp g:Nat} {lv lv':Value} {p xs xs':List Int} {T T':Nat} {last last':List (Int × Int)} (h:SkAt w d v Ap cp g lv p xs T last) (k:Kp d w w')
  (hb:w'.heap[d]?=some (.cells #[.slice Ap p.length cp,.slice (some ⟨g,0,none⟩) (p.length+1) (p.length+1),.pointer (some ⟨v,0,none⟩),.int .i64 ((metF p xs':Nat):Int),.int .i64 (xs'.length:Int),.int .i64 (T':Int),lv'] 119 (0,0)))
  (hl:Kd.R kPl 179 w' d (fun _=>True) lv' last'):SkAt w' d v Ap cp g lv' p xs' T' last':=⟨hb,k.rw h.hp,k.rw h.hb,hl⟩
theorem forget_sk {w:World} {d v:Nat} {Ap:Option Addr} {cp g:Nat} {lv:Value} {p xs:List Int} {T:Nat} {last:List (Int × Int)} (h:SkAt w d v Ap cp g lv p xs T last) (hl:last.length≤1000000000) (hp:p.length≤1000) (hx:∀ x∈last,0≤x.2/\x.2≤1000000000000) :
  Calls Tryz.prog 100 #[.pointer (some ⟨d,0,none⟩)] w fun e w'=>e=.returned (.tuple #[])/\∃ lv',SkAt w' d v Ap cp g lv' p xs T (forgetL (p.length:Int) (xs.length:Int) last)/\Kp d w w':=by
 have H:=As.mk h
 have hdw:d<w.heap.size:=blk_lt h.blk
 obtain⟨Al,cl,hlv⟩:=Kd.R_slice h.hl
 subst hlv
 have HX0:=As.mk hx
 clear h hx
 go_enter Tryz.func100,Tryz.ntmps100
 go_wp2_with fail
 go_loopg [2] last.length (fun k v2 W=>∃ (i:Nat),v2=.int .i64 (i:Int)/\i≤last.length/\(i=0\/i<last.length)/\As (last.length-i≤k)/\As (Below w.heap.size w W)/\As (forgetN (p.length:Int) (xs.length:Int) last=i+forgetN (p.length:Int) (xs.length:Int) (last.drop i)))
 case atStart=>exact⟨0,rfl,Nat.zero_le _,.inl rfl,⟨Z1⟩,⟨Below.refl _ _⟩,⟨by rw[List.drop_zero,Nat.zero_add]⟩⟩
 case round =>
  obtain⟨i,rfl,hi,hi2,HK,HWr,HN⟩:=hrel
  rename World=>wr
  obtain⟨i1,hi1⟩:∃ i1,i1=i+1:=⟨_,rfl⟩
  have hw1:wrap64 ((i:Int)+1)=(i1:Int):=(w64 (Z1) (Z1)).trans (Z1)
  have HI1:=As.mk hi1
  have hii:i<i1/\i1≤i+1:=Z1
  clear hi1
  by_cases hlt:i1<last.length
  ·have hltI:decide ((i1:Int)<(last.length:Int))=true:=decide_eq_true (Z1)
   have hltP:(i1:Int)<(last.length:Int):=Z1
   obtain⟨k1,rfl⟩:∃ k1,gk=k1+1:=⟨gk-1,Z65⟩
   obtain⟨⟨a,b⟩,hxx⟩:∃ x,last[i1]?=some x:=⟨_,List.getElem?_eq_getElem hlt⟩
   have hbx:=HX0.out _ (List.mem_of_getElem? hxx)
   dsimp only at hbx
   have hfd:=forgetN_drop (pl:=(p.length:Int)) (it:=(xs.length:Int)) (l:=last) (i:=i) (by rw[←HI1.out];exact hxx)
   have hN:=HN.out
   rw[hfd]at hN
   dsimp only at hN
   have HX:=As.mk hxx
   obtain⟨gl,hA,_,_⟩:=pl_cells H.out.hl hxx
   subst hA
   have hwb:wrap64 (b+(p.length:Int))=b+(p.length:Int):=w64 (Z1) (Z1)
   clear hxx hfd HN hbx
   by_cases hle:b+(p.length:Int)≤(xs.length:Int)
   ·have hd2:decide (b+(p.length:Int)≤(xs.length:Int))=true:=decide_eq_true hle
    rw[if_pos hle]at hN
    have HN2:=As.mk hN
    clear hN hle
    go_wp2_with fail
    refine start_ (n:=31) (S:=fun w'=>Below w.heap.size w w') (ds:=[]) #[false,false,false,false,false,false,false,false,false,false,false,false,false,false,false,false,false,false,false,false,false,false,false,false,false,false,false,false,false,false,false] (Z15) rfl rfl (below_drew1 HWr.out) (fun hHeld=>?_)
    have HD3:=As.mk (below_drew1 HWr.out);clear hHeld;generalize wr.drew=w3 at HD3 ⊢;have hHeld:=HD3.out
    refine pI 0 (some 3) (bs 31 1) ?_
    refine pI 1 (some 4) (bs 31 3) ?_
    refine pI 2 (some 5) (bs 31 7) ?_
    refine pI 3 (some 6) (bs 31 15) ?_
    refine pI 4 (some 7) (bs 31 31) ?_
    refine tI 5 (some 8) (bs 31 63) rfl (Z150) hHeld ?_
    refine pI 6 (some 9) (bs 31 127) ?_
    refine pI 7 (some 10) (bs 31 255) ?_
    refine pI 8 (some 11) (bs 31 511) ?_
    refine pI 9 (some 12) (bs 31 1023) ?_
    refine pI 10 (some 13) (bs 31 2047) ?_
    refine pI 11 (some 14) (bs 31 4095) ?_
    refine pI 13 (some 16) (bs 31 12287) ?_
    refine pI 14 (some 17) (bs 31 28671) ?_
    refine pI 18 (some 21) (bs 31 290815) ?_
    refine pI 19 (some 22) (bs 31 815103) ?_
    refine pI 20 (some 23) (bs 31 1863679) ?_
    refine pI 21 (some 24) (bs 31 3960831) ?_
    refine pI 25 (some 28) (bs 31 37515263) ?_
    refine pI 26 (some 29) (bs 31 104624127) ?_
    refine pI 27 (some 30) (bs 31 238841855) ?_
    refine tI 12 (some 15) (bs 31 238845951) rfl (Z150) hHeld ?_
    refine pI 15 (some 18) (bs 31 238878719) ?_
    refine pI 16 (some 19) (bs 31 238944255) ?_
    refine tI 17 (some 20) (bs 31 239075327) rfl (Z151) hHeld ?_
    refine tI 22 (some 25) (bs 31 243269631) rfl (Z150) hHeld ?_
    refine pI 23 (some 26) (bs 31 251658239) ?_
    refine pI 24 (some 27) (bs 31 268435455) ?_
    refine tI 28 (some 31) (bs 31 536870911) rfl (Z150) hHeld ?_
    refine pI 29 (some 32) (bs 31 1073741823) ?_
    refine pI 30 (some 33) (bs 31 2147483647) ?_
    refine done_ (Z15) ?_
    go_wp2
    go_roundg k1
    case measure=>omega
    case rel=>exact⟨i1,by rw[HI1.out];go_num,Z1,.inr hlt,⟨Z65⟩,HD3,⟨by have:=HN2.out;rw[HI1.out];rw[this];omega⟩⟩
   ·have hd2:decide (b+(p.length:Int)≤(xs.length:Int))=false:=decide_eq_false hle
    rw[if_neg hle,Nat.add_zero]at hN
    have HN2:=As.mk hN
    clear hN hle
    go_wp2_with fail
    refine start_ (n:=31) (S:=fun w'=>Below w.heap.size w w') (ds:=[]) #[false,false,false,false,false,false,false,false,false,false,false,false,false,false,false,false,false,false,false,false,false,false,false,false,false,false,false,false,false,false,false] (Z15) rfl rfl (below_drew1 HWr.out) (fun hHeld=>?_)
    have HD3:=As.mk (below_drew1 HWr.out);clear hHeld;generalize wr.drew=w3 at HD3 ⊢;have hHeld:=HD3.out
    refine pI 0 (some 3) (bs 31 1) ?_
    refine pI 1 (some 4) (bs 31 3) ?_
    refine pI 2 (some 5) (bs 31 7) ?_
    refine pI 3 (some 6) (bs 31 15) ?_
    refine pI 4 (some 7) (bs 31 31) ?_
    refine tI 5 (some 8) (bs 31 63) rfl (Z150) hHeld ?_
    refine pI 6 (some 9) (bs 31 127) ?_
    refine pI 7 (some 10) (bs 31 255) ?_
    refine pI 8 (some 11) (bs 31 511) ?_
    refine pI 9 (some 12) (bs 31 1023) ?_
    refine pI 10 (some 13) (bs 31 2047) ?_
    refine pI 11 (some 14) (bs 31 4095) ?_
    refine pI 13 (some 16) (bs 31 12287) ?_
    refine pI 14 (some 17) (bs 31 28671) ?_
    refine pI 18 (some 21) (bs 31 290815) ?_
    refine pI 19 (some 22) (bs 31 815103) ?_
    refine pI 20 (some 23) (bs 31 1863679) ?_
    refine pI 21 (some 24) (bs 31 3960831) ?_
    refine pI 25 (some 28) (bs 31 37515263) ?_
    refine pI 26 (some 29) (bs 31 104624127) ?_
    refine pI 27 (some 30) (bs 31 238841855) ?_
    refine tI 12 (some 15) (bs 31 238845951) rfl (Z150) hHeld ?_
    refine pI 15 (some 18) (bs 31 238878719) ?_
    refine pI 16 (some 19) (bs 31 238944255) ?_
    refine tI 17 (some 20) (bs 31 239075327) rfl (Z151) hHeld ?_
    refine tI 22 (some 25) (bs 31 243269631) rfl (Z150) hHeld ?_
    refine pI 23 (some 26) (bs 31 251658239) ?_
    refine pI 24 (some 27) (bs 31 268435455) ?_
    refine tI 28 (some 31) (bs 31 536870911) rfl (Z150) hHeld ?_
    refine pI 29 (some 32) (bs 31 1073741823) ?_
    refine pI 30 (some 33) (bs 31 2147483647) ?_
    refine done_ (Z15) ?_
    have hS3:=H.out.below HD3.out
    have hd3:d≤w3.heap.size:=Nat.le_of_lt (blk_lt hS3.blk)
    have c6:=cell_of (i:=6) hS3.blk rfl
    have f6:=frozen_of hS3.blk 6
    rcases Nat.eq_zero_or_pos i with h0|h0
    ·subst h0
     have HS4:=As.mk (show SkAt (w3.setCell ⟨d,6,none⟩ (.slice (some ⟨gl,0,none⟩) last.length cl)) d v Ap cp g (.slice (some ⟨gl,0,none⟩) last.length cl) p xs T (forgetL (p.length:Int) (xs.length:Int) last) by
      unfold forgetL
      rw[HN2.out,List.drop_zero]
      exact hS3.kp (Kp.set hS3.blk 6 _) (blk_put hS3.blk 6 _ rfl) (Kd.R_set hS3.hl hS3.blk (Z31) 6 _))
     have HK4:=As.mk ((Kp.of HD3.out (Nat.le_of_lt hdw)).trans (Kp.set hS3.blk 6 (.slice (some ⟨gl,0,none⟩) last.length cl)))
     have hcl:=(Kd.R_reads' hS3.hl).2.1
     clear hS3
     go_wp2_with (go_at_call 134;refine(delete_zero hcl _).mono ?_;rintro e w4 ⟨rfl,rfl⟩)
     go_end0
     exact⟨rfl,_,HS4.out,HK4.out⟩
    ·have hil:i<last.length:=by omega
     obtain⟨m,hm⟩:∃ m,last.length=m+i:=⟨last.length-i,Z1⟩
     obtain⟨x0,hx0⟩:∃ x,last[i]?=some x:=⟨_,List.getElem?_eq_getElem hil⟩
     obtain⟨gl',hA,_,_⟩:=pl_cells hS3.hl hx0
     injection hA with hA;injection hA with hA;subst hA
     have HDL:=As.mk (delete_pl hS3.hl h0 hm (Z1) hd3)
     have HS3:=As.mk hS3
     clear hS3 hx0 hm
     go_wp2_with (go_at_call 134;refine HDL.out.mono ?_;rintro e w4 ⟨rfl,hr,hk,hz⟩;have HR4:=As.mk hr;have HK4:=As.mk hk;have HB4:=As.mk ((hz d (pl_ne HS3.out.hl HS3.out.blk (Z31)) (blk_lt HS3.out.blk)).trans HS3.out.blk);clear hr hk hz c6 f6;have f6:=frozen_of HB4.out 6;have c6:=cell_of (i:=6) HB4.out rfl)
     go_end0
     refine⟨rfl,.slice (some ⟨gl,0,none⟩) m cl,?_,((Kp.of HD3.out (Nat.le_of_lt hdw)).trans HK4.out).trans (Kp.set HB4.out 6 _)⟩
     unfold forgetL
     rw[HN2.out]
     exact HS3.out.kp (HK4.out.trans (Kp.set HB4.out 6 _)) (blk_put HB4.out 6 _ rfl) (Kd.R_set HR4.out HB4.out (Z31) 6 _)
  ·have hltI:decide ((i1:Int)<(last.length:Int))=false:=decide_eq_false (Z1)
   have hN:=HN.out
   rw[forgetN_end (by have:=HI1.out;omega),Nat.add_zero]at hN
   have HN2:=As.mk hN
   clear hN HN
   go_wp2_with fail
   refine start_ (n:=31) (S:=fun w'=>Below w.heap.size w w') (ds:=[]) #[false,false,false,false,false,false,false,false,false,false,false,false,false,false,false,false,false,false,false,false,false,false,false,false,false,false,false,false,false,false,false] (Z15) rfl rfl (below_drew1 HWr.out) (fun hHeld=>?_)
   have HD3:=As.mk (below_drew1 HWr.out);clear hHeld;generalize wr.drew=w3 at HD3 ⊢;have hHeld:=HD3.out
   refine pI 0 (some 3) (bs 31 1) ?_
   refine pI 1 (some 4) (bs 31 3) ?_
   refine pI 2 (some 5) (bs 31 7) ?_
   refine pI 3 (some 6) (bs 31 15) ?_
   refine pI 4 (some 7) (bs 31 31) ?_
   refine tI 5 (some 8) (bs 31 63) rfl (Z150) hHeld ?_
   refine pI 6 (some 9) (bs 31 127) ?_
   refine pI 7 (some 10) (bs 31 255) ?_
   refine pI 8 (some 11) (bs 31 511) ?_
   refine pO 9 (some 12) (bs 31 1023) ?_
   refine pO 10 (some 13) (bs 31 2047) ?_
   refine pO 11 (some 14) (bs 31 4095) ?_
   refine pO 12 (some 15) (bs 31 8191) ?_
   refine pO 13 (some 16) (bs 31 16383) ?_
   refine pO 14 (some 17) (bs 31 32767) ?_
   refine pO 15 (some 18) (bs 31 65535) ?_
   refine pO 16 (some 19) (bs 31 131071) ?_
   refine pO 17 (some 20) (bs 31 262143) ?_
   refine pO 18 (some 21) (bs 31 524287) ?_
   refine pO 19 (some 22) (bs 31 1048575) ?_
   refine pO 20 (some 23) (bs 31 2097151) ?_
   refine pO 21 (some 24) (bs 31 4194303) ?_
   refine pO 22 (some 25) (bs 31 8388607) ?_
   refine pO 23 (some 26) (bs 31 16777215) ?_
   refine pO 24 (some 27) (bs 31 33554431) ?_
   refine pO 25 (some 28) (bs 31 67108863) ?_
   refine pO 26 (some 29) (bs 31 134217727) ?_
   refine pO 27 (some 30) (bs 31 268435455) ?_
   refine pO 28 (some 31) (bs 31 536870911) ?_
   refine pO 29 (some 32) (bs 31 1073741823) ?_
   refine pI 30 (some 33) (bs 31 2147483647) ?_
   refine done_ (Z15) ?_
   have hS3:=H.out.below HD3.out
   have hd3:d≤w3.heap.size:=Nat.le_of_lt (blk_lt hS3.blk)
   have c6:=cell_of (i:=6) hS3.blk rfl
   have f6:=frozen_of hS3.blk 6
   rcases Nat.eq_zero_or_pos i with h0|h0
   ·subst h0
    have HS4:=As.mk (show SkAt (w3.setCell ⟨d,6,none⟩ (.slice Al last.length cl)) d v Ap cp g (.slice Al last.length cl) p xs T (forgetL (p.length:Int) (xs.length:Int) last) by
     unfold forgetL
     rw[HN2.out,List.drop_zero]
     exact hS3.kp (Kp.set hS3.blk 6 _) (blk_put hS3.blk 6 _ rfl) (Kd.R_set hS3.hl hS3.blk (Z31) 6 _))
    have HK4:=As.mk ((Kp.of HD3.out (Nat.le_of_lt hdw)).trans (Kp.set hS3.blk 6 (.slice Al last.length cl)))
    have hcl:=(Kd.R_reads' hS3.hl).2.1
    clear hS3
    go_wp2_with (go_at_call 134;refine(delete_zero hcl _).mono ?_;rintro e w4 ⟨rfl,rfl⟩)
    go_end0
    exact⟨rfl,_,HS4.out,HK4.out⟩
   ·have hil:i<last.length:=by omega
    obtain⟨m,hm⟩:∃ m,last.length=m+i:=⟨last.length-i,Z1⟩
    obtain⟨x0,hx0⟩:∃ x,last[i]?=some x:=⟨_,List.getElem?_eq_getElem hil⟩
    obtain⟨gl',hA,_,_⟩:=pl_cells hS3.hl hx0
    subst hA
    have HDL:=As.mk (delete_pl hS3.hl h0 hm (Z1) hd3)
    have HS3:=As.mk hS3
    clear hS3 hx0 hm
    go_wp2_with (go_at_call 134;refine HDL.out.mono ?_;rintro e w4 ⟨rfl,hr,hk,hz⟩;have HR4:=As.mk hr;have HK4:=As.mk hk;have HB4:=As.mk ((hz d (pl_ne HS3.out.hl HS3.out.blk (Z31)) (blk_lt HS3.out.blk)).trans HS3.out.blk);clear hr hk hz c6 f6;have f6:=frozen_of HB4.out 6;have c6:=cell_of (i:=6) HB4.out rfl)
    go_end0
    refine⟨rfl,.slice (some ⟨gl',0,none⟩) m cl,?_,((Kp.of HD3.out (Nat.le_of_lt hdw)).trans HK4.out).trans (Kp.set HB4.out 6 _)⟩
    unfold forgetL
    rw[HN2.out]
    exact HS3.out.kp (HK4.out.trans (Kp.set HB4.out 6 _)) (blk_put HB4.out 6 _ rfl) (Kd.R_set HR4.out HB4.out (Z31) 6 _)
end Go.Proofs.YtkffhgiiejbnaaaGreat.Sk
namespace Go.Proofs.YtkffhgiiejbnaaaGreat.Sk
open Go.Shelf Go.RowKit YtkffhgiiejbnaaaGreatW.PrintWords YtkffhgiiejbnaaaGreatW.PrintLast YtkffhgiiejbnaaaGreatW.PrintMore Rf Aid Mp Hp Tk Vc En
theorem info_mt:(Tryz.prog.info? 65).map (fun i=>(i.zero,i.size,i.bytes))=some (some (.agg #[.int .i64 0,.int .i64 0,.int .i64 0,.bool false]),4,32):=Z15
def atF (p xs:List Int) (j:Nat):Int:=(xs.length:Int)+(j:Int)+1-(p.length:Int)
def hitF (p xs:List Int) (L:List (Int × Int)) (T:Nat) (its:List Int) (j:Nat):List S65 :=
 if metF p (xs++its.take (j+1))=p.length then [⟨atF p xs j,(firstF L (atF p xs j)).1,(T:Int),(firstF L (atF p xs j)).2==atF p xs j && ((j:Int)+1==(its.length:Int))⟩] else []
theorem hit_len (p xs:List Int) (L:List (Int × Int)) (T:Nat) (its:List Int):∀ j,((List.range j).flatMap (hitF p xs L T its)).length≤j
 | 0=>Nat.le_refl _
 | j+1=>by
  rw[List.range_succ,List.flatMap_append,List.length_append]
  have:=hit_len p xs L T its j
  have h2:(hitF p xs L T its j).length≤1:=by unfold hitF;split <;> simp
  simp
  simp at this
  omega
theorem hit_next (p xs:List Int) (L:List (Int × Int)) (T:Nat) (its:List Int) (j:Nat):(List.range (j+1)).flatMap (hitF p xs L T its)=(List.range j).flatMap (hitF p xs L T its)++hitF p xs L T its j:=by
 rw[List.range_succ,List.flatMap_append]
 simp
theorem sk_ne {W:World} {base d:Nat} {ok:Nat->Prop} {lv:Value} {l:List (Int × Int)} {cs:Array Value} (h:Kd.R kPl 179 W base ok lv l) (hb:W.heap[d]?=some (.cells cs 119 (0,0))):some d≠lv.ownBlock:=fun e=>by
 obtain⟨_,_,_,q,hq,cells,hc⟩:=(Kd.R_bound h).1 d e.symm
 rw[hb]at hc
 injection hc with hc
 injection hc with _ ht' _
 have hq2:q=179:=List.mem_singleton.1 hq
 rw[hq2]at ht'
 exact absurd ht' (Z31)
def Far (W W':World):Prop:=∀ (k:Nat) (cs:Array Value) (q:Nat),W.heap[k]?=some (.cells cs q (0,0))->q≠65->W'.heap[k]?=W.heap[k]?
theorem match_far {W W':World} {u:Value} {base:Nat} {ok:Nat->Prop} {l:List S65} (hu:Kd.R k65 65 W base ok u l) (hg:W.grownBy W' u.ownBlock):Far W W':=fun k cs q hk hq=>hg.block k (blk_lt hk) (fun e=>by
 obtain⟨_,_,_,q',hq',cells,hc⟩:=(Kd.R_bound hu).1 k e.symm
 rw[hk]at hc
 injection hc with hc
 injection hc with _ ht _
 exact hq (ht.trans (List.mem_singleton.1 hq')))
theorem R_far {α:Type} {kd:Kd α} {e:Nat} {W W':World} {base:Nat} {ok:Nat->Prop} {v:Value} {xs:List α} (f:Far W W') (h:Kd.R kd e W base ok v xs) (hq:∀ q,q∈e::kd.E->q≠65):Kd.R kd e W' base ok v xs :=
 Kd.R_mono (Kd.R_move (Kd.R_bound h) (fun j hj=>by
  obtain⟨_,_,_,q,hq',cells,hc⟩:=hj
  exact f j _ q hc (hq q hq'))) (fun _ hk=>hk.1)
theorem SkAt.far {w w':World} {d v:Nat} {Ap:Option Addr} {cp g:Nat} {lv:Value} {p xs:List Int} {T:Nat} {last:List (Int × Int)} (h:SkAt w d v Ap cp g lv p xs T last) (f:Far w w'):SkAt w' d v Ap cp g lv p xs T last :=
 ⟨(f _ _ _ h.blk (Z31)).trans h.blk,R_far f h.hp (fun q hq=>Z147),R_far f h.hb (fun q hq=>Z147),R_far f h.hl (fun q hq=>Z147)⟩
theorem Kp.far {d:Nat} {w W W':World} {row:Option Nat} (k:Kp d w W) (hg:W.grownBy W' row) (hr:∀ j,row=some j->w.heap.size≤j) (hd:d≤w.heap.size):Kp d w W' :=
 ⟨k.1.trans ((Below.refl d W).grown hg (Nat.le_trans hd k.1.size) (fun j e=>Nat.le_trans hd (hr j e))),fun i o ho h1 h2=>(hg.block i (Nat.lt_of_lt_of_le (Array.getElem?_eq_some_iff.1 ho).1 k.1.size) (fun e=>by
  have:=hr i e.symm
  have:=(Array.getElem?_eq_some_iff.1 ho).1
  omega)).trans (k.2 i o ho h1 h2)⟩
theorem forgetL_len (pl it:Int) (l:List (Int × Int)):(forgetL pl it l).length≤l.length:=by unfold forgetL;rw[List.length_drop];omega
theorem token_sk {w:World} {d v:Nat} {Ap:Option Addr} {cp g:Nat} {lv:Value} {p xs:List Int} {T:Nat} {last:List (Int × Int)} (h:SkAt w d v Ap cp g lv p xs T last) (hp:p≠[]) (hpl:p.length≤64) (hl:last.length≤1000000) (hx:∀ x∈last,0≤x.2/\x.2≤(xs.length:Int)) (hxl:xs.length≤1000000000) (hT:T≤1000000000)
  {A:Option Addr} {c:Nat} {its:List Int} (hi:Rw w (.slice A its.length c) its) (hil:its.length≤1000000) :
  Calls Tryz.prog 71 #[.pointer (some ⟨d,0,none⟩),.slice A its.length c] w fun e w'=>∃ u lv',e=.returned u/\Kd.R k65 65 w' w.heap.size (fun _=>True) u ((List.range its.length).flatMap (hitF p xs (forgetL (p.length:Int) (xs.length:Int) last++[((T:Int),(xs.length:Int))]) T its))/\SkAt w' d v Ap cp g lv' p (xs++its) (T+1) (forgetL (p.length:Int) (xs.length:Int) last++[((T:Int),(xs.length:Int))])/\Kp d w w':=by
 have HFG:=As.mk (forget_sk h (Z1) (Z1) (fun x hm=>⟨(hx x hm).1,by have:=(hx x hm).2;omega⟩))
 have HP:=As.mk hp
 have HL:=As.mk hpl
 have HI0:=As.mk hi
 have HIL:=As.mk hil
 have HXL:=As.mk (And.intro hxl hT)
 have HDW:=As.mk (Nat.le_of_lt (blk_lt h.blk))
 have HFL:=As.mk (Nat.le_trans (forgetL_len (p.length:Int) (xs.length:Int) last) hl)
 clear h hp hx hi hl
 go_enter Tryz.func71,Tryz.ntmps71
 go_wp2_with (go_at_call 100;refine HFG.out.mono ?_;rintro e w1 ⟨rfl,lv1,hs,hk⟩;have HS1:=As.mk hs;have HK1:=As.mk hk;clear hs hk)
 refine start_ (n:=19) (S:=fun w'=>w'.heap[d]?=some (.cells #[.slice Ap p.length cp,.slice (some ⟨g,0,none⟩) (p.length+1) (p.length+1),.pointer (some ⟨v,0,none⟩),.int .i64 ((metF p xs:Nat):Int),.int .i64 (xs.length:Int),.int .i64 (T:Int),lv1] 119 (0,0))) (ds:=[18]) #[false,false,false,false,false,false,false,false,false,false,false,false,false,false,false,false,false,false,false] (Z15) rfl rfl (((below_drew1 (Below.refl w1.heap.size w1)).block _ (blk_lt HS1.out.blk)).trans HS1.out.blk) (fun hHeld=>?_)
 have HD3:=As.mk (below_drew1 (Below.refl w1.heap.size w1));clear hHeld;generalize w1.drew=w3 at HD3 ⊢;have hHeld:=(HD3.out.block _ (blk_lt HS1.out.blk)).trans HS1.out.blk
 refine pI 0 (some 12) (bs 19 1) ?_
 refine pI 1 (some 13) (bs 19 3) ?_
 refine pI 2 (some 14) (bs 19 7) ?_
 refine pI 3 (some 15) (bs 19 15) ?_
 refine pI 5 (some 17) (bs 19 47) ?_
 refine pI 6 (some 18) (bs 19 111) ?_
 refine pI 7 (some 19) (bs 19 239) ?_
 refine pI 9 (some 21) (bs 19 751) ?_
 refine pI 10 (some 22) (bs 19 1775) ?_
 refine pI 11 (some 23) (bs 19 3823) ?_
 refine tI 4 (some 16) (bs 19 3839) rfl (Z152) hHeld ?_
 refine tI 8 (some 20) (bs 19 4095) rfl (Z152) hHeld ?_
 refine tI 12 (some 24) (bs 19 8191) rfl (Z152) hHeld ?_
 refine pI 13 (some 25) (bs 19 16383) ?_
 refine one_ (i:=14) (N:=some 26) (bs 19 32767) rfl rfl (Z15) (Z31) (fun K hK=>?_)
 have hb3:=(HD3.out.block _ (blk_lt HS1.out.blk)).trans HS1.out.blk
 refine value_ (w1:=w3.alloc (.cells #[.int .i64 (T:Int),.int .i64 (xs.length:Int)] 179)) (v:=.slice (some ⟨w3.heap.size,0,none⟩) 1 1) (by rfl) rfl ?_ ?_
 ·first|(go_simp;done)|(go_simp;rfl)
 refine hK.out _ _ (((below_alloc (Below.refl w3.heap.size w3) (.cells #[.int .i64 (T:Int),.int .i64 (xs.length:Int)] 179)).block _ (blk_lt hb3)).trans hb3) (fun _=>?_)
 clear hK K
 refine nI ?_
 refine one_ (i:=15) (N:=some 27) (bs 19 65535) rfl rfl (Z15) (Z31) (fun K hK=>?_)
 refine Kd.R_append_step kPl (w0:=w3) d (by rfl) (.tmp 16) (.tmp 26) 117 179 (.agg #[.int .i64 0,.int .i64 0]) 16 rfl Tryz.underlying117 info_pl rfl (Z31) (Z1) lv1 (forgetL (p.length:Int) (xs.length:Int) last) ((T:Int),(xs.length:Int)) [.int .i64 (T:Int),.int .i64 (xs.length:Int)] (fun _=>True) (fun _=>False) (by rfl) (by rfl) rfl (fun _ hk=>hk.elim) (fun _ _=>trivial) (Kd.R_below HS1.out.hl HD3.out) (Below.refl _ _) (Nat.le_of_lt (blk_lt hb3)) (by have:=HFL.out;omega) ?_
 intro u4 w4 ho hb hg hat
 obtain⟨A4,c4',hu4⟩:=Kd.R_slice ho
 obtain⟨n4,hn4⟩:∃ n,n=(forgetL (p.length:Int) (xs.length:Int) last++[((T:Int),(xs.length:Int))]).length:=⟨_,rfl⟩
 rw[←hn4]at hu4
 subst hu4
 have hb4:=(hg.block _ (blk_lt hb3) (sk_ne (Kd.R_below HS1.out.hl HD3.out) hb3)).trans hb3
 have HO4:=As.mk ho
 have HB4:=As.mk hb4
 have HK4:=As.mk ((Kp.of HD3.out (Nat.le_of_lt (blk_lt HS1.out.blk))).trans (Kp.grow (Kd.R_below HS1.out.hl HD3.out) hg (Nat.le_of_lt (blk_lt hb3))))
 clear ho hb hg hat hn4 hb3
 refine hK.out _ _ hb4 (fun _=>?_)
 clear hK K
 refine nI ?_
 refine pI 16 (some 28) (bs 19 131071) ?_
 refine pI 17 (some 29) (bs 19 262143) ?_
 refine last_ (i:=18) (N:=none) (bs 19 524287) rfl rfl (Z15) (Z31) (fun K hK=>?_)
 have z4:=cell_of (i:=6) HB4.out rfl
 have z5:=frozen_of HB4.out 6
 refine skip_ (w1:=w4.setCell ⟨d,6,none⟩ (.slice A4 n4 c4')) (by rfl) rfl ?_ ?_
 ·first|(go_simp;done)|(go_simp;rfl)
 refine hK.out _ _ ?_
 clear hK K
 refine done_ (Z15) ?_
 have HK5:=As.mk (HK1.out.trans (HK4.out.trans (Kp.set HB4.out 6 (.slice A4 n4 c4'))))
 have HS5:=As.mk (HS1.out.kp (T':=T) (xs':=xs) (HK4.out.trans (Kp.set HB4.out 6 (.slice A4 n4 c4'))) (blk_put HB4.out 6 _ rfl) (Kd.R_set HO4.out HB4.out (Z31) 6 _))
 have HI5:=As.mk (HK5.out.rw HI0.out)
 have HZ5:=As.mk HK5.out.1.size
 clear HB4 HO4 HS1 HK1 HK4 HI0 HFG z4 z5 HD3
 generalize w4.setCell ⟨d,6,none⟩ (.slice A4 n4 c4')=w5 at HK5 HS5 HI5 HZ5 ⊢
 obtain⟨L2,hL2⟩:∃ L2,L2=forgetL (p.length:Int) (xs.length:Int) last++[((T:Int),(xs.length:Int))]:=⟨_,rfl⟩
 have HL2:=As.mk hL2
 rw[←hL2]at HS5
 clear hL2
 go_wp2_with fail
 obtain⟨lv2,hlv2⟩:∃ lv2,lv2=Value.slice A4 n4 c4':=⟨_,rfl⟩
 rw[←hlv2]at HS5
 clear hlv2
 go_loopg [5,32] its.length (fun k v5 v32 W=>∃ (j:Nat),v32=.int .i64 (j:Int)/\j≤its.length/\As (its.length-j≤k)/\As (SkAt W d v Ap cp g lv2 p (xs++its.take j) T L2)/\As (Kp d w W)/\As (Kd.R k65 65 W w.heap.size (fun _=>True) v5 ((List.range j).flatMap (hitF p xs L2 T its)))/\As (Rw W (.slice A its.length c) its))
 case atStart=>exact⟨0,rfl,Nat.zero_le _,⟨Z1⟩,⟨by rw[List.take_zero,List.append_nil];exact HS5.out⟩,HK5,⟨Kd.R_nil _ _ _ _ _⟩,HI5⟩
 case round =>
  clear HS5 HK5 HI5 HZ5
  obtain⟨j,rfl,hj,HK,HSJ,HKJ,HO,HI⟩:=hrel
  rename World=>W
  by_cases hlt:j<its.length
  ·have hltI:(j:Int)<(its.length:Int):=by omega
   obtain⟨k1,rfl⟩:∃ k1,gk=k1+1:=⟨gk-1,Z65⟩
   obtain⟨y,hy⟩:∃ y,its[j]?=some y:=⟨_,List.getElem?_eq_getElem hlt⟩
   obtain⟨ad,rfl,xr⟩:=rd_at HI.out.rd.2.2 hy
   have hXN:xs++its.take (j+1)=(xs++its.take j)++[y]:=Z153
   have hXL:((xs++its.take j).length:Int)=(xs.length:Int)+(j:Int):=by rw[List.length_append,List.length_take];omega
   have HXN:=As.mk hXN
   have HXJ:=As.mk hXL
   clear hy hXN hXL
   obtain⟨XJ,hXJ⟩:∃ XJ,XJ=xs++its.take j:=⟨_,rfl⟩
   rw[←hXJ]at HSJ HXN HXJ
   clear hXJ
   have hwN:wrap64 ((XJ.length:Int)+1)=(XJ.length:Int)+1:=by have h1:=HXJ.out;have h2:=HXL.out;exact w64 (Z1) (Z1)
   go_wp2_with fail
   clear xr
   refine start_ (n:=14) (S:=fun w'=>w'.heap[d]?=some (.cells #[.slice Ap p.length cp,.slice (some ⟨g,0,none⟩) (p.length+1) (p.length+1),.pointer (some ⟨v,0,none⟩),.int .i64 ((metF p XJ:Nat):Int),.int .i64 (XJ.length:Int),.int .i64 (T:Int),lv2] 119 (0,0))) (ds:=[13]) #[false,false,false,false,false,false,false,false,false,false,false,false,false,false] (Z15) rfl rfl (((below_drew1 (Below.refl W.heap.size W)).block _ (blk_lt HSJ.out.blk)).trans HSJ.out.blk) (fun hHeld=>?_)
   have HD7:=As.mk (below_drew1 (Below.refl W.heap.size W));clear hHeld;generalize W.drew=w7 at HD7 ⊢;have hHeld:=(HD7.out.block _ (blk_lt HSJ.out.blk)).trans HSJ.out.blk
   refine pI 0 (some 37) (bs 14 1) ?_
   refine pI 1 (some 38) (bs 14 3) ?_
   refine pI 2 (some 39) (bs 14 7) ?_
   refine pI 3 (some 40) (bs 14 15) ?_
   refine pI 5 (some 42) (bs 14 47) ?_
   refine pI 6 (some 43) (bs 14 111) ?_
   refine pI 7 (some 44) (bs 14 239) ?_
   refine pI 9 (some 46) (bs 14 751) ?_
   refine tI 4 (some 41) (bs 14 767) rfl (Z152) hHeld ?_
   refine tI 8 (some 45) (bs 14 1023) rfl (Z152) hHeld ?_
   refine one_ (i:=10) (N:=some 47) (bs 14 2047) rfl rfl (Z15) (Z31) (fun K hK=>?_)
   refine goes_ Tryz.func101 (Z15) rfl #[.agg #[.slice Ap p.length cp,.slice (some ⟨g,0,none⟩) (p.length+1) (p.length+1)],.int .i64 ((metF p XJ:Nat):Int),.int .i64 y] (by rfl) rfl rfl (Z101) ?_
   have hs7:=HSJ.out.below HD7.out
   have hst:=step_any (p:=p) (B:=bkL p) (n:=y) (k:=metF p XJ) (c2:=p.length+1) (m:=p.length+1) HP.out (bkL_len p) (Z126) (metF_le p XJ) (fun j _ h2=>bkL_at (Nat.le_trans h2 (metF_le p XJ))) w7 hs7.hp.rd.2.2 hs7.hp.rd.2.1 hs7.hb.rd.2.2 (by rw[bkL_len];exact Nat.le_refl _) (by rw[bkL_len])
   rw[step_met HP.out (Nat.lt_succ_self _)]at hst
   refine hst.mono ?_
   clear hst hs7
   rintro e w8 ⟨rfl,hb⟩
   have HD8:=As.mk (bt_ HD7.out hb)
   clear hb
   refine⟨_,rfl,?_⟩
   refine hK.out _ _ ((HD8.out.block _ (blk_lt HSJ.out.blk)).trans HSJ.out.blk) (fun _=>?_)
   clear hK K
   refine nI ?_
   refine pI 11 (some 48) (bs 14 4095) ?_
   refine pI 12 (some 49) (bs 14 8191) ?_
   refine last_ (i:=13) (N:=none) (bs 14 16383) rfl rfl (Z15) (Z31) (fun K hK=>?_)
   have hb8:=(HD8.out.block _ (blk_lt HSJ.out.blk)).trans HSJ.out.blk
   have z4:=cell_of (i:=3) hb8 rfl
   have z5:=frozen_of hb8 3
   refine skip_ (w1:=w8.setCell ⟨d,3,none⟩ (.int .i64 ((metF p (XJ++[y]):Nat):Int))) (by rfl) rfl ?_ ?_
   ·first|(go_simp;done)|(go_simp;rfl)
   refine hK.out _ _ ?_
   clear hK K
   refine done_ (Z15) ?_
   have hb9:=blk_put hb8 3 (.int .i64 ((metF p (XJ++[y]):Nat):Int)) rfl
   have HK9:=As.mk (Kp.trans (Kp.of HD8.out (Nat.le_of_lt (blk_lt HSJ.out.blk))) (Kp.set hb8 3 (.int .i64 ((metF p (XJ++[y]):Nat):Int))))
   have HL9:=As.mk (Kd.R_set (Kd.R_below HSJ.out.hl HD8.out) hb8 (Z31) 3 (.int .i64 ((metF p (XJ++[y]):Nat):Int)))
   have HO9:=As.mk (Kd.R_set (Kd.R_below HO.out HD8.out) hb8 (Z31) 3 (.int .i64 ((metF p (XJ++[y]):Nat):Int)))
   have HB9:=As.mk hb9
   clear hb8 hb9 z4 z5 HO
   generalize w8.setCell ⟨d,3,none⟩ (.int .i64 ((metF p (XJ++[y]):Nat):Int))=w9 at HK9 HL9 HO9 HB9 ⊢
   have c4:=cell_of (i:=4) HB9.out rfl
   have f4:=frozen_of HB9.out 4
   go_wp2_with fail
   clear c4 f4
   have hlen:((XJ++[y]).length:Int)=(XJ.length:Int)+1:=by simp
   have HSN:=As.mk (HSJ.out.kp (xs':=XJ++[y]) (T':=T) (HK9.out.trans (Kp.set HB9.out 4 (.int .i64 ((XJ.length:Int)+1)))) (by rw[hlen];exact blk_put HB9.out 4 _ rfl) (Kd.R_set HL9.out HB9.out (Z31) 4 (.int .i64 ((XJ.length:Int)+1))))
   have HKN:=As.mk (HKJ.out.trans (HK9.out.trans (Kp.set HB9.out 4 (.int .i64 ((XJ.length:Int)+1)))))
   have HON:=As.mk (Kd.R_set HO9.out HB9.out (Z31) 4 (.int .i64 ((XJ.length:Int)+1)))
   have HIN:=As.mk ((HK9.out.trans (Kp.set HB9.out 4 (.int .i64 ((XJ.length:Int)+1)))).rw HI.out)
   have HZ:=As.mk HKN.out.1.size
   clear HSJ HKJ HO9 HI HK9 HL9 HB9 hlen
   generalize w9.setCell ⟨d,4,none⟩ (.int .i64 ((XJ.length:Int)+1))=w10 at HSN HKN HON HIN HZ ⊢
   rw[←HXN.out]at HSN
   obtain⟨XN,hXN⟩:∃ XN,XN=xs++its.take (j+1):=⟨_,rfl⟩
   have hXNL:(XN.length:Int)=(xs.length:Int)+(j:Int)+1:=by rw[hXN,List.length_append,List.length_take];omega
   by_cases hm:metF p XN=p.length
   ·have hd1:(((metF p XN:Nat):Int)==(p.length:Int))=true:=by rw[hm];simp
    obtain⟨AT,hAT⟩:∃ AT,AT=atF p xs j:=⟨_,rfl⟩
    have hwA:wrap64 ((XN.length:Int)-(p.length:Int))=AT:=by
     rw[hAT]
     unfold atF
     have h2:=HXL.out
     rw[hXNL]
     exact w64 (Z1) (Z1)
    obtain⟨f1,hf1⟩:∃ f1,f1=(firstF L2 AT).1:=⟨_,rfl⟩
    obtain⟨f2,hf2⟩:∃ f2,f2=(firstF L2 AT).2:=⟨_,rfl⟩
    have hh:hitF p xs L2 T its j=[⟨AT,f1,(T:Int),f2==AT && ((j:Int)+1==(its.length:Int))⟩]:=by
     unfold hitF
     rw[←hXN,if_pos hm,←hAT,←hf1,←hf2]
    have HH:=As.mk hh
    rw[←hXN]at HSN
    have HXN2:=As.mk hXN
    have HL2L:=As.mk (show L2.length≤1000000000 by rw[HL2.out,List.length_append,List.length_singleton];have:=HFL.out;omega)
    have hwj:wrap64 ((j:Int)+1)=(j:Int)+1:=w64 (Z1) (by have:=HIL.out;omega)
    have HFF:=As.mk (And.intro hf1 hf2)
    clear hm hh hXN hXNL hAT hf1 hf2
    go_wp2_with fail
    refine start_ (n:=11) (S:=fun w'=>Below w10.heap.size w10 w') (ds:=[]) #[false,false,false,false,false,false,false,false,false,false,false] (Z15) rfl rfl (below_drew1 (Below.refl _ _)) (fun hHeld=>?_)
    have HD11:=As.mk (below_drew1 (Below.refl w10.heap.size w10));clear hHeld;generalize w10.drew=w11 at HD11 ⊢;have hHeld:=HD11.out
    refine pI 0 (some 57) (bs 11 1) ?_
    refine pI 1 (some 58) (bs 11 3) ?_
    refine pI 2 (some 59) (bs 11 7) ?_
    refine pI 4 (some 61) (bs 11 23) ?_
    refine pI 5 (some 62) (bs 11 55) ?_
    refine pI 6 (some 63) (bs 11 119) ?_
    refine pI 7 (some 64) (bs 11 247) ?_
    refine tI 3 (some 60) (bs 11 255) rfl (Z154) hHeld ?_
    refine tI 8 (some 65) (bs 11 511) rfl (Z154) hHeld ?_
    refine pI 9 (some 66) (bs 11 1023) ?_
    refine pI 10 (some 67) (bs 11 2047) ?_
    refine done_ (Z15) ?_
    have HS11:=As.mk (HSN.out.below HD11.out)
    clear hd1
    go_wp2_with fail
    refine start_ (n:=12) (S:=fun w'=>Below w11.heap.size w11 w') (ds:=[]) #[false,false,false,false,false,false,false,false,false,false,false,false] (Z15) rfl rfl (below_drew1 (Below.refl _ _)) (fun hHeld=>?_)
    have HD12:=As.mk (below_drew1 (Below.refl w11.heap.size w11));clear hHeld;generalize w11.drew=w12 at HD12 ⊢;have hHeld:=HD12.out
    refine pI 0 (some 68) (bs 12 1) ?_
    refine pI 1 (some 69) (bs 12 3) ?_
    refine pI 2 (some 70) (bs 12 7) ?_
    refine pI 4 (some 72) (bs 12 23) ?_
    refine pI 5 (some 73) (bs 12 55) ?_
    refine pI 6 (some 74) (bs 12 119) ?_
    refine pI 7 (some 75) (bs 12 247) ?_
    refine tI 3 (some 71) (bs 12 255) rfl (Z155) hHeld ?_
    refine tI 8 (some 76) (bs 12 511) rfl (Z155) hHeld ?_
    refine pI 9 (some 77) (bs 12 1023) ?_
    refine pI 10 (some 78) (bs 12 2047) ?_
    refine pI 11 (some 8) (bs 12 4095) ?_
    refine done_ (Z15) ?_
    have HS12:=As.mk (HS11.out.below HD12.out)
    have HFS:=As.mk (first_sk HS12.out HL2L.out AT)
    rw[←HFF.out.1,←HFF.out.2]at HFS
    go_wp2_with (go_at_call 102;refine HFS.out.mono ?_;rintro e w13 ⟨rfl,hb⟩;have HD13:=As.mk (bt_ HD12.out hb);clear hb;have HN13:=As.mk (Go.MapKept.heap_alloc w13 (.cells #[.int .i64 0,.int .i64 0] 179)).1;have n0:=cell_of (i:=0) HN13.out rfl;have n1:=cell_of (i:=1) HN13.out rfl;have m0:=frozen_of HN13.out 0;have m1:=frozen_of HN13.out 1)
    have HX14:=As.mk (Go.MapKept.heap_alloc w13 (.cells #[.int .i64 f1,.int .i64 f2] 179)).1
    have HB14:=As.mk (bt_ (bt_ HD11.out HD13.out) (below_alloc (Below.refl w13.heap.size w13) (.cells #[.int .i64 f1,.int .i64 f2] 179)))
    clear n0 n1 m0 m1 HN13
    generalize w13.alloc (.cells #[.int .i64 f1,.int .i64 f2] 179)=w14 at HX14 HB14 ⊢
    have HS14:=As.mk (HSN.out.below HB14.out)
    have HO14:=As.mk (Kd.R_below HON.out HB14.out)
    have HI14:=As.mk (HIN.out.below HB14.out)
    have HK14:=As.mk (HKN.out.trans (Kp.of HB14.out (Nat.le_trans HDW.out HZ.out)))
    have HZ14:=As.mk (Nat.le_trans HZ.out HB14.out.size)
    clear HSN HKN HON HIN HZ HS11 HS12 HFS HFF HD11 HD12 HD13 HB14
    by_cases hf:f2=AT
    ·have hq1:(f2==AT)=true:=by simp[hf]
     have HH2:=As.mk (show hitF p xs L2 T its j=[⟨AT,f1,(T:Int),((j:Int)+1==(its.length:Int))⟩] by rw[HH.out,hq1,Bool.true_and])
     clear hf HH
     refine start_ (n:=23) (S:=fun w'=>w'.heap[d]?=some (.cells #[.slice Ap p.length cp,.slice (some ⟨g,0,none⟩) (p.length+1) (p.length+1),.pointer (some ⟨v,0,none⟩),.int .i64 ((metF p XN:Nat):Int),.int .i64 (XN.length:Int),.int .i64 (T:Int),lv2] 119 (0,0))/\w'.heap[w13.heap.size]?=some (.cells #[.int .i64 f1,.int .i64 f2] 179 (0,0))) (ds:=[]) #[false,false,false,false,false,false,false,false,false,false,false,false,false,false,false,false,false,false,false,false,false,false,false] (Z15) rfl rfl (⟨((below_drew1 (Below.refl w14.heap.size w14)).block _ (blk_lt HS14.out.blk)).trans HS14.out.blk,((below_drew1 (Below.refl w14.heap.size w14)).block _ (blk_lt HX14.out)).trans HX14.out⟩) (fun hHeld=>?_)
     have HD15:=As.mk (below_drew1 (Below.refl w14.heap.size w14));clear hHeld;generalize w14.drew=w15 at HD15 ⊢;have hHeld:=And.intro ((HD15.out.block _ (blk_lt HS14.out.blk)).trans HS14.out.blk) ((HD15.out.block _ (blk_lt HX14.out)).trans HX14.out)
     refine pI 0 (some 82) (bs 23 1) ?_
     refine pI 1 (some 83) (bs 23 3) ?_
     refine pI 2 (some 84) (bs 23 7) ?_
     refine pI 4 (some 86) (bs 23 23) ?_
     refine pI 5 (some 87) (bs 23 55) ?_
     refine pI 6 (some 88) (bs 23 119) ?_
     refine pI 8 (some 90) (bs 23 375) ?_
     refine pI 10 (some 92) (bs 23 1399) ?_
     refine tI 3 (some 85) (bs 23 1407) rfl (Z156) hHeld ?_
     refine tI 7 (some 89) (bs 23 1535) rfl (Z156) hHeld ?_
     refine tI 9 (some 91) (bs 23 2047) rfl (Z156) hHeld ?_
     refine pI 11 (some 93) (bs 23 4095) ?_
     refine pI 12 (some 94) (bs 23 8191) ?_
     refine pI 13 (some 95) (bs 23 16383) ?_
     refine pI 14 (some 96) (bs 23 32767) ?_
     refine pI 15 (some 97) (bs 23 65535) ?_
     refine pI 16 (some 98) (bs 23 131071) ?_
     refine pI 17 (some 99) (bs 23 262143) ?_
     refine pI 18 (some 100) (bs 23 524287) ?_
     refine pI 19 (some 101) (bs 23 1048575) ?_
     refine one_ (i:=20) (N:=some 102) (bs 23 2097151) rfl rfl (Z15) (Z31) (fun K hK=>?_)
     have HQ15:=As.mk hHeld
     refine value_ (w1:=w15.alloc (.cells #[.int .i64 AT,.int .i64 f1,.int .i64 (T:Int),.bool ((j:Int)+1==(its.length:Int))] 65)) (v:=.slice (some ⟨w15.heap.size,0,none⟩) 1 1) (by rfl) rfl ?_ ?_
     ·first|(go_simp;done)|(go_simp;rfl)
     refine hK.out _ _ ⟨((below_alloc (Below.refl w15.heap.size w15) (.cells #[.int .i64 AT,.int .i64 f1,.int .i64 (T:Int),.bool ((j:Int)+1==(its.length:Int))] 65)).block _ (blk_lt HQ15.out.1)).trans HQ15.out.1,((below_alloc (Below.refl w15.heap.size w15) (.cells #[.int .i64 AT,.int .i64 f1,.int .i64 (T:Int),.bool ((j:Int)+1==(its.length:Int))] 65)).block _ (blk_lt HQ15.out.2)).trans HQ15.out.2⟩ (fun _=>?_)
     clear hK K
     refine nI ?_
     refine one_ (i:=21) (N:=some 103) (bs 23 4194303) rfl rfl (Z15) (Z31) (fun K hK=>?_)
     refine Kd.R_append_step k65 (w0:=w15) w.heap.size (by rfl) (.tmp 82) (.tmp 102) 60 65 (.agg #[.int .i64 0,.int .i64 0,.int .i64 0,.bool false]) 32 rfl Tryz.underlying60 info_mt rfl (Z31) (Z1) _ ((List.range j).flatMap (hitF p xs L2 T its)) ⟨AT,f1,(T:Int),((j:Int)+1==(its.length:Int))⟩ [.int .i64 AT,.int .i64 f1,.int .i64 (T:Int),.bool ((j:Int)+1==(its.length:Int))] (fun _=>True) (fun _=>False) (by rfl) (by rfl) (k65_mkM _ _ _ ⟨AT,f1,(T:Int),((j:Int)+1==(its.length:Int))⟩) (fun _ hk=>hk.elim) (fun _ _=>trivial) (Kd.R_below HO14.out HD15.out) (Below.refl _ _) (Nat.le_trans HZ14.out HD15.out.size) (Z157) ?_
     intro u16 w16 ho hb hg hat
     have HO16:=As.mk ho
     have HF16:=As.mk (match_far (Kd.R_below HO14.out HD15.out) hg)
     have HS16:=As.mk ((HS14.out.below HD15.out).far HF16.out)
     have HI16:=As.mk (show Rw w16 _ its from R_far HF16.out (HI14.out.below HD15.out) (fun q hq=>Z147))
     have HK16:=As.mk (Kp.far (HK14.out.trans (Kp.of HD15.out (Nat.le_trans HDW.out HZ14.out))) hg (fun k hk=>((Kd.R_bound (Kd.R_below HO14.out HD15.out)).1 k hk).2.1) HDW.out)
     clear ho hb hg hat
     refine hK.out _ _ ⟨(HF16.out _ _ _ HQ15.out.1 (Z31)).trans HQ15.out.1,(HF16.out _ _ _ HQ15.out.2 (Z31)).trans HQ15.out.2⟩ (fun _=>?_)
     clear hK K
     refine nI ?_
     refine pI 22 (some 5) (bs 23 8388607) ?_
     refine done_ (Z15) ?_
     go_wp2
     go_roundg k1
     case measure=>omega
     case rel=>exact⟨j+1,Z67,Z1,⟨Z65⟩,⟨by rw[←HXN2.out];exact HS16.out⟩,HK16,⟨by rw[hit_next,HH2.out];exact HO16.out⟩,HI16⟩
    ·have hq1:(f2==AT)=false:=by simpa using hf
     have HH2:=As.mk (show hitF p xs L2 T its j=[⟨AT,f1,(T:Int),false⟩] by rw[HH.out,hq1,Bool.false_and])
     clear hf HH
     refine start_ (n:=23) (S:=fun w'=>w'.heap[d]?=some (.cells #[.slice Ap p.length cp,.slice (some ⟨g,0,none⟩) (p.length+1) (p.length+1),.pointer (some ⟨v,0,none⟩),.int .i64 ((metF p XN:Nat):Int),.int .i64 (XN.length:Int),.int .i64 (T:Int),lv2] 119 (0,0))/\w'.heap[w13.heap.size]?=some (.cells #[.int .i64 f1,.int .i64 f2] 179 (0,0))) (ds:=[]) #[false,false,false,false,false,false,false,false,false,false,false,false,false,false,false,false,false,false,false,false,false,false,false] (Z15) rfl rfl (⟨((below_drew1 (Below.refl w14.heap.size w14)).block _ (blk_lt HS14.out.blk)).trans HS14.out.blk,((below_drew1 (Below.refl w14.heap.size w14)).block _ (blk_lt HX14.out)).trans HX14.out⟩) (fun hHeld=>?_)
     have HD15:=As.mk (below_drew1 (Below.refl w14.heap.size w14));clear hHeld;generalize w14.drew=w15 at HD15 ⊢;have hHeld:=And.intro ((HD15.out.block _ (blk_lt HS14.out.blk)).trans HS14.out.blk) ((HD15.out.block _ (blk_lt HX14.out)).trans HX14.out)
     refine pI 0 (some 82) (bs 23 1) ?_
     refine pI 1 (some 83) (bs 23 3) ?_
     refine pI 2 (some 84) (bs 23 7) ?_
     refine pI 4 (some 86) (bs 23 23) ?_
     refine pI 5 (some 87) (bs 23 55) ?_
     refine pI 6 (some 88) (bs 23 119) ?_
     refine pI 8 (some 90) (bs 23 375) ?_
     refine pI 10 (some 92) (bs 23 1399) ?_
     refine tI 3 (some 85) (bs 23 1407) rfl (Z156) hHeld ?_
     refine tI 7 (some 89) (bs 23 1535) rfl (Z156) hHeld ?_
     refine tI 9 (some 91) (bs 23 2047) rfl (Z156) hHeld ?_
     refine pI 11 (some 93) (bs 23 4095) ?_
     refine pI 12 (some 94) (bs 23 8191) ?_
     refine pO 13 (some 95) (bs 23 16383) ?_
     refine pO 14 (some 96) (bs 23 32767) ?_
     refine pO 15 (some 97) (bs 23 65535) ?_
     refine pO 16 (some 98) (bs 23 131071) ?_
     refine pO 17 (some 99) (bs 23 262143) ?_
     refine pI 18 (some 100) (bs 23 524287) ?_
     refine pI 19 (some 101) (bs 23 1048575) ?_
     refine one_ (i:=20) (N:=some 102) (bs 23 2097151) rfl rfl (Z15) (Z31) (fun K hK=>?_)
     have HQ15:=As.mk hHeld
     refine value_ (w1:=w15.alloc (.cells #[.int .i64 AT,.int .i64 f1,.int .i64 (T:Int),.bool false] 65)) (v:=.slice (some ⟨w15.heap.size,0,none⟩) 1 1) (by rfl) rfl ?_ ?_
     ·first|(go_simp;done)|(go_simp;rfl)
     refine hK.out _ _ ⟨((below_alloc (Below.refl w15.heap.size w15) (.cells #[.int .i64 AT,.int .i64 f1,.int .i64 (T:Int),.bool false] 65)).block _ (blk_lt HQ15.out.1)).trans HQ15.out.1,((below_alloc (Below.refl w15.heap.size w15) (.cells #[.int .i64 AT,.int .i64 f1,.int .i64 (T:Int),.bool false] 65)).block _ (blk_lt HQ15.out.2)).trans HQ15.out.2⟩ (fun _=>?_)
     clear hK K
     refine nI ?_
     refine one_ (i:=21) (N:=some 103) (bs 23 4194303) rfl rfl (Z15) (Z31) (fun K hK=>?_)
     refine Kd.R_append_step k65 (w0:=w15) w.heap.size (by rfl) (.tmp 82) (.tmp 102) 60 65 (.agg #[.int .i64 0,.int .i64 0,.int .i64 0,.bool false]) 32 rfl Tryz.underlying60 info_mt rfl (Z31) (Z1) _ ((List.range j).flatMap (hitF p xs L2 T its)) ⟨AT,f1,(T:Int),false⟩ [.int .i64 AT,.int .i64 f1,.int .i64 (T:Int),.bool false] (fun _=>True) (fun _=>False) (by rfl) (by rfl) (k65_mkM _ _ _ ⟨AT,f1,(T:Int),false⟩) (fun _ hk=>hk.elim) (fun _ _=>trivial) (Kd.R_below HO14.out HD15.out) (Below.refl _ _) (Nat.le_trans HZ14.out HD15.out.size) (Z157) ?_
     intro u16 w16 ho hb hg hat
     have HO16:=As.mk ho
     have HF16:=As.mk (match_far (Kd.R_below HO14.out HD15.out) hg)
     have HS16:=As.mk ((HS14.out.below HD15.out).far HF16.out)
     have HI16:=As.mk (show Rw w16 _ its from R_far HF16.out (HI14.out.below HD15.out) (fun q hq=>Z147))
     have HK16:=As.mk (Kp.far (HK14.out.trans (Kp.of HD15.out (Nat.le_trans HDW.out HZ14.out))) hg (fun k hk=>((Kd.R_bound (Kd.R_below HO14.out HD15.out)).1 k hk).2.1) HDW.out)
     clear ho hb hg hat
     refine hK.out _ _ ⟨(HF16.out _ _ _ HQ15.out.1 (Z31)).trans HQ15.out.1,(HF16.out _ _ _ HQ15.out.2 (Z31)).trans HQ15.out.2⟩ (fun _=>?_)
     clear hK K
     refine nI ?_
     refine pI 22 (some 5) (bs 23 8388607) ?_
     refine done_ (Z15) ?_
     go_wp2
     go_roundg k1
     case measure=>omega
     case rel=>exact⟨j+1,Z67,Z1,⟨Z65⟩,⟨by rw[←HXN2.out];exact HS16.out⟩,HK16,⟨by rw[hit_next,HH2.out];exact HO16.out⟩,HI16⟩
   ·have hd1:(((metF p XN:Nat):Int)==(p.length:Int))=false:=by simp;omega
    have hh:hitF p xs L2 T its j=[]:=by unfold hitF;rw[←hXN,if_neg hm]
    have HH:=As.mk hh
    rw[←hXN]at HSN
    have HXN2:=As.mk hXN
    clear hm hh hXN hXNL
    go_wp2_with fail
    refine start_ (n:=11) (S:=fun w'=>Below w10.heap.size w10 w') (ds:=[]) #[false,false,false,false,false,false,false,false,false,false,false] (Z15) rfl rfl (below_drew1 (Below.refl _ _)) (fun hHeld=>?_)
    have HD11:=As.mk (below_drew1 (Below.refl w10.heap.size w10));clear hHeld;generalize w10.drew=w11 at HD11 ⊢;have hHeld:=HD11.out
    refine pI 0 (some 57) (bs 11 1) ?_
    refine pI 1 (some 58) (bs 11 3) ?_
    refine pI 2 (some 59) (bs 11 7) ?_
    refine pI 4 (some 61) (bs 11 23) ?_
    refine pI 5 (some 62) (bs 11 55) ?_
    refine pI 6 (some 63) (bs 11 119) ?_
    refine pI 7 (some 64) (bs 11 247) ?_
    refine tI 3 (some 60) (bs 11 255) rfl (Z154) hHeld ?_
    refine tI 8 (some 65) (bs 11 511) rfl (Z154) hHeld ?_
    refine pI 9 (some 66) (bs 11 1023) ?_
    refine pI 10 (some 67) (bs 11 2047) ?_
    refine done_ (Z15) ?_
    go_wp2
    go_roundg k1
    case measure=>omega
    case rel=>exact⟨j+1,Z67,Z1,⟨Z65⟩,⟨by rw[←HXN2.out];exact HSN.out.below HD11.out⟩,⟨HKN.out.trans (Kp.of HD11.out (Nat.le_trans HDW.out HZ.out))⟩,⟨by rw[hit_next,HH.out,List.append_nil];exact Kd.R_below HON.out HD11.out⟩,⟨HIN.out.below HD11.out⟩⟩
  ·obtain rfl:j=its.length:=by omega
   have c5:=cell_of (i:=5) HSJ.out.blk rfl
   have f5:=frozen_of HSJ.out.blk 5
   have hwT:wrap64 ((T:Int)+1)=(T:Int)+1:=by have:=HXL.out;exact w64 (Z1) (Z1)
   have hTT:((T+1:Nat):Int)=(T:Int)+1:=Z1
   have hS:=HSJ.out
   rw[List.take_length]at hS
   have HSE:=As.mk (hS.kp (xs':=xs++its) (T':=T+1) (Kp.set hS.blk 5 (.int .i64 ((T:Int)+1))) (by rw[hTT];exact blk_put hS.blk 5 _ rfl) (Kd.R_set hS.hl hS.blk (Z31) 5 (.int .i64 ((T:Int)+1))))
   have HKE:=As.mk (HKJ.out.trans (Kp.set hS.blk 5 (.int .i64 ((T:Int)+1))))
   have HOE:=As.mk (Kd.R_set HO.out hS.blk (Z31) 5 (.int .i64 ((T:Int)+1)))
   clear hS hTT
   go_wp2
   go_ret
   refine⟨_,lv2,rfl,?_,?_,HKE.out⟩
   ·rw[←HL2.out];exact HOE.out
   ·rw[←HL2.out];exact HSE.out
end Go.Proofs.YtkffhgiiejbnaaaGreat.Sk
