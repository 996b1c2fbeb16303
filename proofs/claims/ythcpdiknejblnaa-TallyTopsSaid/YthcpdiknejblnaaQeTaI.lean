import Derived.Test.YthcpdiknejblnaaQeTaH
import Derived.Test.YthcpdiknejblnaaQe01
set_option maxRecDepth 100000
set_option maxHeartbeats 2000000
set_option linter.unusedVariables false
set_option linter.unusedSimpArgs false
namespace Go.Proofs.Ythcpdiknejblnaa.Ta
open Go Go.MapKept Go.RowKit Go.ChangeMaps Go.Sort Go.Lib Mp YthcpdiknejblnaaW.PrintWords YthcpdiknejblnaaW.PrintLast YthcpdiknejblnaaW.PrintMore Rf Aid Hp
theorem R_grown {α:Type} {d:Kd α} {e:Nat} {W W':World} {base r:Nat} {ok:Nat->Prop} {v:Value} {xs:List α} (h:d.R e W base ok v xs) (hg:W.grownBy W' (some r)) (hr:r<base):d.R e W' base ok v xs :=
 Kd.R_mono (Kd.R_move (Kd.R_bound h) (fun j hj=>hg.block j hj.2.2.1 (fun e=>by injection e with e;have:=hj.2.1;omega))) (fun _ hk=>hk.1)
theorem below_grown {w W W':World} {r:Nat} (h:Below w.heap.size w W) (hg:W.grownBy W' (some r)) (hr:w.heap.size≤r):Below w.heap.size w W':=h.grown hg h.size (fun j e=>by injection e with e;omega)
theorem below_own {w W W':World} {base:Nat} {v:Value} (h:Below w.heap.size w W) (hg:W.grownBy W' v.ownBlock) (hr:∀ j,v.ownBlock=some j->base≤j) (hb:w.heap.size≤base):Below w.heap.size w W':=h.grown hg h.size (fun j e=>Nat.le_trans hb (hr j e))
theorem Rg.own {κ:Type} [DecidableEq κ] {enc:κ->Value} {w w':World} {b r base:Nat} {rest:List (κ × Value)} {v:Value} (h:Rg enc w b r rest) (hg:w.grownBy w' v.ownBlock) (hv:∀ j,v.ownBlock=some j->base≤j) (hb:b<base) (hr:r<base):Rg enc w' b r rest :=
 h.of_blocks (hg.block b h.lt.1 (fun e=>by have:=hv b e.symm;omega)) (hg.block r h.lt.2 (fun e=>by have:=hv r e.symm;omega))
theorem firstN_ok {α:Type} (l:List α) (m:Int):(0≤mn (l.length:Int) (mx m 0))/\mn (l.length:Int) (mx m 0)≤(l.length:Int):=by
 unfold mn mx
 constructor <;> (split <;> split <;> omega)
def firstN {α:Type} (l:List α) (m:Int):List α:=l.take (mn (l.length:Int) (mx m 0)).toNat
variable {lo hi d bi bp:Nat} {w w':World} {I:List (Int × Int)} {P:List ((Int × Int) × Int)} {n:Int}
theorem infoE:(Try.prog.info? 32).map (fun i=>(i.zero,i.size,i.bytes))=some (some (.agg #[.int .i64 0,.int .i64 0]),2,16):=Z5
def leE (x y:S32):Bool:=!ltOf cfE y x
def toE (p:Int × Int):S32:=⟨p.1,p.2⟩
def topE (l:List (Int × Int)):List S32:=(l.map toE).mergeSort leE
theorem sortedE (l:List S32):(l.mergeSort leE).Pairwise (fun a b=>leE a b=true):=by
 refine List.pairwise_mergeSort (fun a b c h1 h2=>?_) (fun a b=>?_) l
 ·unfold leE at *
  simp only[Bool.not_eq_true']at *
  exact swoE.ntrans c b a h2 h1
 ·unfold leE
  cases h:ltOf cfE b a with
  | false=>rfl
  | true =>
   cases h2:ltOf cfE a b with
   | false=>rfl
   | true =>
    have:=swoE.trans a b a h2 h
    rw[swoE.irrefl]at this
    cases this
theorem sameE {a b:List S32} (h:a.Perm b):a.mergeSort leE=b.mergeSort leE:=by
 refine List.Perm.eq_of_pairwise (le:=fun a b=>leE a b=true) (fun x y _ _ h1 h2=>?_) (sortedE a) (sortedE b) (((List.mergeSort_perm a _).trans h).trans (List.mergeSort_perm b _).symm)
 unfold leE at h1 h2
 simp only[Bool.not_eq_true']at h1 h2
 exact antiE x y h2 h1
theorem top_permE {a b:List (Int × Int)} (h:a.Perm b):topE a=topE b:=sameE (h.map toE)
theorem sortE_any {w:World} {base:Nat} {v:Value} {l:List S32} (h:Kd.R k32 32 w base (fun _=>True) v l) (hl:l.length≤1000000) (hb:base≤w.heap.size) :
  Calls Try.prog 23 #[v,.func (.func 24) #[] #[]] w fun e w'=>e=.returned (.tuple #[])/\Kd.R k32 32 w' base (fun _=>True) v (l.mergeSort leE)/\Below base w w':=by
 cases l with
 | nil =>
  obtain⟨A,c,rfl⟩:=Kd.R_slice h
  refine(AnyF.slices_SortFunc_none Try.sortE A c _ w).mono ?_
  rintro e w' ⟨rfl,rfl⟩
  exact⟨rfl,by rw[show ([]:List S32).mergeSort leE=[] from by simp];exact h,Below.refl _ _⟩
 | cons a r =>
  obtain⟨g,c,rfl,hg1,hg2,cells,hc⟩:=Kd.R_form h (by simp)
  have hH:=R_holdsK (enc:=encE) (fun hm=>k32_openM hm) h
  have hcmp:CmpLays Try.prog 24 #[] encE 2 cfE g 0 (a::r).toArray.size w:=fun _ _ _ _ x y=>cloE x y _
  have hs:=AnyQ.slices_SortFunc_total Try.sortE 2 Try.isAgg32 Try.sizeOf32 encE (fun _=>rfl) (fun x v hv=>by simp only[encE,List.mem_cons,List.not_mem_nil,or_false]at hv;rcases hv with rfl|rfl <;> rfl) cfE swoE 24 #[] g 0 c (a::r).toArray w (enters_of Try.func24 (Z5) rfl) hcmp hH hg2 (by simp at hl ⊢;omega) antiE
  refine Calls.mono (show Calls Try.prog 23 #[.slice (some ⟨g,0,none⟩) (a::r).length c,.func (.func 24) #[] #[]] w _ from hs) ?_
  rintro e w' ⟨rfl,m,os,rfl⟩
  have hR:=R_sorted (d:=k32) (enc:=encE) (ys:=(a::r).mergeSort leE) (fun w base ok x=>k32_mkM w base ok x) (fun _=>rfl) h (by rw[List.length_mergeSort]) (m:=m) (os:=os)
  exact⟨rfl,hR.1,(hR.2.below (Nat.le_of_lt hg2)).mono hg1⟩
theorem topE_any (h:TalAt lo hi w d bi bp I P n) (hF:Fine I n) (hn:n≤1000000) (most:Int) :
  Calls Try.prog 10 #[.pointer (some ⟨d,0,none⟩),.int .i64 most] w fun e w'=>∃ v,e=.returned v/\Kd.R k32 32 w' w.heap.size (fun _=>True) v (firstN (topE I) most)/\Below w.heap.size w w':=by
 have c0:=cell_of (i:=0) h.blk rfl
 have HM:=As.mk (show Blk encInt.enc w bi (vL I) from h.ids)
 have HL:=As.mk (show (I.length:Int)≤1000000 by have:=hF.m0;omega)
 have hbl:=h.ids.lt
 clear h hF hn
 go_enter Try.func10,Try.ntmps10
 go_wp2_with (at_range;refine wpList_range_blk _ rfl _ 51 rfl _ _ Try.underlying51 rfl HM.out ?_;intro ob hrg;have HRG:=As.mk hrg;have HB1:=As.mk (below_alloc (Below.refl w.heap.size w) ob);have HZ:=As.mk (show (w.alloc ob).heap.size=w.heap.size+1 by simp);clear hrg c0;generalize w.alloc ob=w1 at *)
 go_frame
 go_loopg [5] I.length (fun k v5 W=>∃ D R:List (Int × Int),(D++R).Perm I/\R.length≤k/\As (Rg encInt.enc W bi w.heap.size (vL R))/\As (Kd.R k32 32 W w1.heap.size (fun _=>True) v5 (D.map toE))/\As (Below w.heap.size w W)/\As (w1.heap.size≤W.heap.size))
 case atStart=>exact⟨[],I,List.Perm.refl _,Nat.le_refl _,HRG,⟨Kd.R_nil _ _ _ _ _⟩,HB1,⟨Nat.le_refl _⟩⟩
 case round =>
  clear HRG HB1
  obtain⟨D,R,hp,hk,HR,HO,HB,HS⟩:=hrel
  rename World=>W
  have HP:=As.mk hp
  clear hp
  generalize hLL:D.map toE=LL at HO
  have HLL:=As.mk hLL
  clear hLL
  obtain⟨A5,c5,rfl⟩:=Kd.R_slice HO.out
  go_wp2_with (at_next;refine wpList_next_rg _ rfl _ rfl rfl HR.out ?_ ?_)
  ·intro hr
   have hr0:R=[]:=by
    unfold vL at hr
    exact List.map_eq_nil_iff.1 hr
   subst hr0
   have HPE:=As.mk (show D.Perm I by have:=HP.out;rwa [List.append_nil]at this)
   have hdl:LL.length≤1000000:=Z22
   have HSO:=As.mk (sortE_any HO.out hdl HS.out)
   have HTE:=As.mk (show LL.mergeSort leE=topE I by rw[←HLL.out];exact top_permE HPE.out)
   have HFS:=As.mk (show tally_Entry_27.f (topE I) most=some (firstN (topE I) most) by unfold tally_Entry_27.f;rw[if_pos (firstN_ok _ _).1,if_pos (firstN_ok _ _).2];rfl)
   clear hr HP hdl
   go_wp2_with (first
    | (go_at_call 23;go_loud (refine HSO.out.mono ?_;rintro e w2 ⟨rfl,ho,hb⟩;rw[HTE.out]at ho;have HO2:=As.mk (Kd.R_lower (base':=w.heap.size) ho (Z23));have HB2:=As.mk (HB.out.trans (hb.mono (Z23)));clear ho hb HSO))
    | (go_at_call 27;refine(tally_Entry_27.calls (fun _=>True) _ (topE I) most _ w _ HB2.out HO2.out HFS.out).mono ?_;rintro e w3 ⟨v0,rfl,ho,hb,_⟩;have HO3:=As.mk ho;have HB3:=As.mk hb;clear ho hb))
   go_ret
   exact⟨_,rfl,Kd.R_mono HO3.out (fun _ _=>trivial),HB3.out⟩
  ·intro y yv A B w2 hx hrg hgr hsz hen
   obtain⟨A',⟨x',p2⟩,B',e1,e2,e3⟩:=vL_split hx
   subst e1
   simp only[Prod.mk.injEq]at e2
   obtain⟨rfl,rfl⟩:=e2
   unfold encInt at hen
   dsimp only at hen
   rw[←e3]at hrg
   have hk':(A'++B').length+1≤gk:=Z24
   obtain⟨k1,rfl⟩:∃ k1,gk=k1+1:=⟨gk-1,Z0⟩
   have HRG:=As.mk hrg
   have HO2:=As.mk (R_grown HO.out hgr (Z23))
   have HB2:=As.mk (below_grown HB.out hgr (Nat.le_refl _))
   have HZ2:=As.mk (show w1.heap.size≤w2.heap.size by have:=HS.out;omega)
   have HKL:=As.mk hk'
   have HDL:=As.mk (show LL.length≤1000000 from Z25)
   have HP3:=As.mk (perm_step HP.out)
   have HSN:=As.mk (show (D++[(y,p2)]).map toE=LL++[⟨y,p2⟩] by rw[List.map_append,HLL.out];rfl)
   have hbz:bi<w1.heap.size:=Z23
   have hrz:w.heap.size<w1.heap.size:=Z23
   clear hx hrg hgr hsz e3 hk hk' HR HO HB HS HP
   go_wp2_with ((with_reducible refine gate_builtin (b:=.append) (xs:=#[.tmp 20,.tmp 24]) rfl ?_);at_builtin;go_loud (refine Kd.R_append k32 (w0:=w2) (W:=w2) w1.heap.size rfl (.tmp 20) (.tmp 24) 27 32 (.agg #[.int .i64 0,.int .i64 0]) 16 rfl Try.underlying27 infoE rfl (Z18) (Z0) _ LL ⟨y,p2⟩ [.int .i64 y,.int .i64 p2] (fun _=>True) (fun _=>False) (by rfl) (by first|rfl|simp[Act.eval,go_sem]) (k32_mkM _ _ _ ⟨y,p2⟩) (fun _ hk=>hk.elim) (fun _ _=>trivial) HO2.out (Below.refl _ _) HZ2.out (by have:=HDL.out;omega) ?_;intro u5 w5 ho hb hg hat;rw[←HSN.out]at ho;have HO5:=As.mk ho;have HR5:=As.mk (HRG.out.own hg (fun j e=>((Kd.R_bound HO2.out).1 j e).2.1) hbz hrz);have HB5:=As.mk (below_own HB2.out hg (fun j e=>((Kd.R_bound HO2.out).1 j e).2.1) (Nat.le_of_lt hrz));have HZ5:=As.mk (Nat.le_trans HZ2.out hg.size);clear ho hb hg hat))
   go_roundg k1
   case measure=>omega
   case rel=>exact⟨D++[(y,p2)],A'++B',HP3.out,by have:=HKL.out;omega,HR5,HO5,HB5,HZ5⟩
theorem infoP:(Try.prog.info? 35).map (fun i=>(i.zero,i.size,i.bytes))=some (some (.agg #[.int .i64 0,.int .i64 0,.int .i64 0]),3,24):=Z5
def leP (x y:S35):Bool:=!ltOf cfP y x
def toP (p:(Int × Int) × Int):S35:=⟨p.1.1,p.1.2,p.2⟩
def topP (l:List ((Int × Int) × Int)):List S35:=(l.map toP).mergeSort leP
theorem sortedP (l:List S35):(l.mergeSort leP).Pairwise (fun a b=>leP a b=true):=by
 refine List.pairwise_mergeSort (fun a b c h1 h2=>?_) (fun a b=>?_) l
 ·unfold leP at *
  simp only[Bool.not_eq_true']at *
  exact swoP.ntrans c b a h2 h1
 ·unfold leP
  cases h:ltOf cfP b a with
  | false=>rfl
  | true =>
   cases h2:ltOf cfP a b with
   | false=>rfl
   | true =>
    have:=swoP.trans a b a h2 h
    rw[swoP.irrefl]at this
    cases this
theorem sameP {a b:List S35} (h:a.Perm b):a.mergeSort leP=b.mergeSort leP:=by
 refine List.Perm.eq_of_pairwise (le:=fun a b=>leP a b=true) (fun x y _ _ h1 h2=>?_) (sortedP a) (sortedP b) (((List.mergeSort_perm a _).trans h).trans (List.mergeSort_perm b _).symm)
 unfold leP at h1 h2
 simp only[Bool.not_eq_true']at h1 h2
 exact antiP x y h2 h1
theorem top_permP {a b:List ((Int × Int) × Int)} (h:a.Perm b):topP a=topP b:=sameP (h.map toP)
theorem sortP_any {w:World} {base:Nat} {v:Value} {l:List S35} (h:Kd.R k35 35 w base (fun _=>True) v l) (hl:l.length≤1000000) (hb:base≤w.heap.size) :
  Calls Try.prog 28 #[v,.func (.func 29) #[] #[]] w fun e w'=>e=.returned (.tuple #[])/\Kd.R k35 35 w' base (fun _=>True) v (l.mergeSort leP)/\Below base w w':=by
 cases l with
 | nil =>
  obtain⟨A,c,rfl⟩:=Kd.R_slice h
  refine(AnyF.slices_SortFunc_none Try.sortP A c _ w).mono ?_
  rintro e w' ⟨rfl,rfl⟩
  exact⟨rfl,by rw[show ([]:List S35).mergeSort leP=[] from by simp];exact h,Below.refl _ _⟩
 | cons a r =>
  obtain⟨g,c,rfl,hg1,hg2,cells,hc⟩:=Kd.R_form h (by simp)
  have hH:=R_holdsK (enc:=encP) (fun hm=>k35_openM hm) h
  have hcmp:CmpLays Try.prog 29 #[] encP 3 cfP g 0 (a::r).toArray.size w:=fun _ _ _ _ x y=>cloP x y _
  have hs:=AnyQ.slices_SortFunc_total Try.sortP 3 Try.isAgg35 Try.sizeOf35 encP (fun _=>rfl) (fun x v hv=>by simp only[encP,List.mem_cons,List.not_mem_nil,or_false]at hv;rcases hv with rfl|rfl|rfl <;> rfl) cfP swoP 29 #[] g 0 c (a::r).toArray w (enters_of Try.func29 (Z5) rfl) hcmp hH hg2 (by simp at hl ⊢;omega) antiP
  refine Calls.mono (show Calls Try.prog 28 #[.slice (some ⟨g,0,none⟩) (a::r).length c,.func (.func 29) #[] #[]] w _ from hs) ?_
  rintro e w' ⟨rfl,m,os,rfl⟩
  have hR:=R_sorted (d:=k35) (enc:=encP) (ys:=(a::r).mergeSort leP) (fun w base ok x=>k35_mkM w base ok x) (fun _=>rfl) h (by rw[List.length_mergeSort]) (m:=m) (os:=os)
  exact⟨rfl,hR.1,(hR.2.below (Nat.le_of_lt hg2)).mono hg1⟩
theorem topP_any (h:TalAt lo hi w d bi bp I P n) (hF:∃ m,m≤n/\Fine P m) (hn:n≤1000000) (most:Int) :
  Calls Try.prog 11 #[.pointer (some ⟨d,0,none⟩),.int .i64 most] w fun e w'=>∃ v,e=.returned v/\Kd.R k35 35 w' w.heap.size (fun _=>True) v (firstN (topP P) most)/\Below w.heap.size w w':=by
 have c0:=cell_of (i:=1) h.blk rfl
 have HM:=As.mk (show Blk encM w bp (vL P) from h.prs)
 have HL:=As.mk (show (P.length:Int)≤1000000 by obtain⟨m,h1,h2⟩:=hF;have:=h2.m0;omega)
 have hbl:=h.prs.lt
 clear h hF hn
 go_enter Try.func11,Try.ntmps11
 go_wp2_with (at_range;refine wpList_range_blk _ rfl _ 53 rfl _ _ Try.underlying53 rfl HM.out ?_;intro ob hrg;have HRG:=As.mk hrg;have HB1:=As.mk (below_alloc (Below.refl w.heap.size w) ob);have HZ:=As.mk (show (w.alloc ob).heap.size=w.heap.size+1 by simp);clear hrg c0;generalize w.alloc ob=w1 at *)
 go_frame
 go_loopg [5] P.length (fun k v5 W=>∃ D R:List ((Int × Int) × Int),(D++R).Perm P/\R.length≤k/\As (Rg encM W bp w.heap.size (vL R))/\As (Kd.R k35 35 W w1.heap.size (fun _=>True) v5 (D.map toP))/\As (Below w.heap.size w W)/\As (w1.heap.size≤W.heap.size))
 case atStart=>exact⟨[],P,List.Perm.refl _,Nat.le_refl _,HRG,⟨Kd.R_nil _ _ _ _ _⟩,HB1,⟨Nat.le_refl _⟩⟩
 case round =>
  clear HRG HB1
  obtain⟨D,R,hp,hk,HR,HO,HB,HS⟩:=hrel
  rename World=>W
  have HP:=As.mk hp
  clear hp
  generalize hLL:D.map toP=LL at HO
  have HLL:=As.mk hLL
  clear hLL
  obtain⟨A5,c5,rfl⟩:=Kd.R_slice HO.out
  go_wp2_with (at_next;refine wpList_next_rg _ rfl _ rfl rfl HR.out ?_ ?_)
  ·intro hr
   have hr0:R=[]:=by
    unfold vL at hr
    exact List.map_eq_nil_iff.1 hr
   subst hr0
   have HPE:=As.mk (show D.Perm P by have:=HP.out;rwa [List.append_nil]at this)
   have hdl:LL.length≤1000000:=Z22
   have HSO:=As.mk (sortP_any HO.out hdl HS.out)
   have HTE:=As.mk (show LL.mergeSort leP=topP P by rw[←HLL.out];exact top_permP HPE.out)
   have HFS:=As.mk (show tally_Pair_30.f (topP P) most=some (firstN (topP P) most) by unfold tally_Pair_30.f;rw[if_pos (firstN_ok _ _).1,if_pos (firstN_ok _ _).2];rfl)
   clear hr HP hdl
   go_wp2_with (first
    | (go_at_call 28;go_loud (refine HSO.out.mono ?_;rintro e w2 ⟨rfl,ho,hb⟩;rw[HTE.out]at ho;have HO2:=As.mk (Kd.R_lower (base':=w.heap.size) ho (Z23));have HB2:=As.mk (HB.out.trans (hb.mono (Z23)));clear ho hb HSO))
    | (go_at_call 30;refine(tally_Pair_30.calls (fun _=>True) _ (topP P) most _ w _ HB2.out HO2.out HFS.out).mono ?_;rintro e w3 ⟨v0,rfl,ho,hb,_⟩;have HO3:=As.mk ho;have HB3:=As.mk hb;clear ho hb))
   go_ret
   exact⟨_,rfl,Kd.R_mono HO3.out (fun _ _=>trivial),HB3.out⟩
  ·intro y1 y2 yv A B w2 hx hrg hgr hsz hen
   obtain⟨A',⟨⟨x1,x2⟩,p2⟩,B',e1,e2,e3⟩:=vL_split hx
   subst e1
   simp only[Prod.mk.injEq]at e2
   obtain⟨⟨rfl,rfl⟩,rfl⟩:=e2
   unfold encM at hen
   rw[←e3]at hrg
   have hk':(A'++B').length+1≤gk:=Z24
   obtain⟨k1,rfl⟩:∃ k1,gk=k1+1:=⟨gk-1,Z0⟩
   have HRG:=As.mk hrg
   have HO2:=As.mk (R_grown HO.out hgr (Z23))
   have HB2:=As.mk (below_grown HB.out hgr (Nat.le_refl _))
   have HZ2:=As.mk (show w1.heap.size≤w2.heap.size by have:=HS.out;omega)
   have HKL:=As.mk hk'
   have HDL:=As.mk (show LL.length≤1000000 from Z25)
   have HP3:=As.mk (perm_step HP.out)
   have HSN:=As.mk (show (D++[((y1,y2),p2)]).map toP=LL++[⟨y1,y2,p2⟩] by rw[List.map_append,HLL.out];rfl)
   have hbz:bp<w1.heap.size:=Z23
   have hrz:w.heap.size<w1.heap.size:=Z23
   clear hx hrg hgr hsz e3 hk hk' HR HO HB HS HP
   have HA:=As.mk (below_alloc (Below.refl w2.heap.size w2) (.cells #[.int .i64 y1,.int .i64 y2] 61))
   have HO4:=As.mk (Kd.R_below HO2.out HA.out)
   have HRG4:=As.mk (HRG.out.below HA.out)
   have HB4:=As.mk (bt_ HB2.out HA.out)
   have HZ4:=As.mk (Nat.le_trans HZ2.out HA.out.size)
   clear HO2 HRG HB2 HZ2
   go_wp2_with ((with_reducible refine gate_builtin (b:=.append) (xs:=#[.tmp 20,.tmp 27]) rfl ?_);at_builtin;go_loud (refine Kd.R_append k35 (w0:=w2.alloc (.cells #[.int .i64 y1,.int .i64 y2] 61)) (W:=w2.alloc (.cells #[.int .i64 y1,.int .i64 y2] 61)) w1.heap.size rfl (.tmp 20) (.tmp 27) 29 35 (.agg #[.int .i64 0,.int .i64 0,.int .i64 0]) 24 rfl Try.underlying29 infoP rfl (Z18) (Z0) _ LL ⟨y1,y2,p2⟩ [.int .i64 y1,.int .i64 y2,.int .i64 p2] (fun _=>True) (fun _=>False) (by rfl) (by first|rfl|simp[Act.eval,go_sem]) (k35_mkM _ _ _ ⟨y1,y2,p2⟩) (fun _ hk=>hk.elim) (fun _ _=>trivial) HO4.out (Below.refl _ _) HZ4.out (by have:=HDL.out;omega) ?_;intro u5 w5 ho hb hg hat;rw[←HSN.out]at ho;have HO5:=As.mk ho;have HR5:=As.mk (HRG4.out.own hg (fun j e=>((Kd.R_bound HO4.out).1 j e).2.1) hbz hrz);have HB5:=As.mk (below_own HB4.out hg (fun j e=>((Kd.R_bound HO4.out).1 j e).2.1) (Nat.le_of_lt hrz));have HZ5:=As.mk (Nat.le_trans HZ4.out hg.size);clear ho hb hg hat))
   go_roundg k1
   case measure=>omega
   case rel=>exact⟨D++[((y1,y2),p2)],A'++B',HP3.out,by have:=HKL.out;omega,HR5,HO5,HB5,HZ5⟩
end Go.Proofs.Ythcpdiknejblnaa.Ta
