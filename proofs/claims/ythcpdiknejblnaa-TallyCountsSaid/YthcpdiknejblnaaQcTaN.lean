import Derived.BigQuiet
import Derived.Test.YthcpdiknejblnaaQcTaL
set_option maxRecDepth 100000
set_option maxHeartbeats 4000000
set_option linter.unusedVariables false
set_option linter.unusedSimpArgs false
namespace Go.Proofs.Ythcpdiknejblnaa.Ta
open Go Go.Shelf Go.MapKept Go.RowKit Go.ChangeMaps Mp YthcpdiknejblnaaW.PrintWords YthcpdiknejblnaaW.PrintLast YthcpdiknejblnaaW.PrintMore Rf Aid Hp
theorem elem_int:Try.prog.elem 37=3:=Z7
theorem under_ints:Try.prog.underlying 37=some (.slice (Try.prog.elem 37)):=by rw[elem_int];exact Try.underlying37
theorem elem_ints:Try.prog.elem 22=37:=Z7
theorem under_intss:Try.prog.underlying 22=some (.slice (Try.prog.elem 22)):=by rw[elem_ints];kernel_rfl
theorem infoS:(Try.prog.info? 37).map (fun i=>(i.zero,i.size,i.bytes))=some (some (.slice none 0 0),1,24):=Z7
theorem size_int (W:World):(sizeOf (Try.prog.elem 37)).run Try.prog W=.ok 1 W:=by
 rw[elem_int]
 obtain⟨i,hi,hsz⟩:=Option.map_eq_some_iff.1 infoI
 injection hsz with _ hsz
 injection hsz with hsz _
 simp[sizeOf,typeInfo,hi,hsz]
theorem size_ints (W:World):(sizeOf (Try.prog.elem 22)).run Try.prog W=.ok 1 W:=by
 rw[elem_ints]
 obtain⟨i,hi,hsz⟩:=Option.map_eq_some_iff.1 infoS
 injection hsz with _ hsz
 injection hsz with hsz _
 simp[sizeOf,typeInfo,hi,hsz]
theorem row_to {w:World} {A:Option Addr} {c m:Nat} {xs:List Int} (h:Kd.C (Kd.int .i64) w A xs.length xs) (hc:xs.length≤c) (hm:m≤xs.length) :
  (∀ W:World,(Instr.slice 37 (.slice A xs.length c) none (some (.int .i64 (m:Int))) none).run Try.prog W=.ok (.slice A (xs.take m).length c) W)/\Kd.C (Kd.int .i64) w A (xs.take m).length (xs.take m):=by
 refine⟨fun W=>?_,Kd.C_take h hm⟩
 rw[run_slice_h W 37 _ xs.length c under_ints .i64 (m:Int) (Z0) (Z0),size_int,List.length_take,Nat.min_eq_left hm]
 simp only[Result.andThen,sliced,Int.toNat_natCast,Nat.zero_mul,Nat.sub_zero]
 congr 2
 by_cases e:c=0
 ·rw[if_pos e]
 ·rw[if_neg e]
  cases A with
  | none=>rfl
  | some a=>simp[Addr.add]
theorem rows_to {w:World} {A:Option Addr} {c m:Nat} {xs:List (List Int)} (h:Kd.C (Kd.slice 3 (Kd.int .i64)) w A xs.length xs) (hc:xs.length≤c) (hm:m≤xs.length) :
  (∀ W:World,(Instr.slice 22 (.slice A xs.length c) none (some (.int .i64 (m:Int))) none).run Try.prog W=.ok (.slice A (xs.take m).length c) W)/\Kd.C (Kd.slice 3 (Kd.int .i64)) w A (xs.take m).length (xs.take m):=by
 refine⟨fun W=>?_,Kd.C_take h hm⟩
 rw[run_slice_h W 22 _ xs.length c under_intss .i64 (m:Int) (Z0) (Z0),size_ints,List.length_take,Nat.min_eq_left hm]
 simp only[Result.andThen,sliced,Int.toNat_natCast,Nat.zero_mul,Nat.sub_zero]
 congr 2
 by_cases e:c=0
 ·rw[if_pos e]
 ·rw[if_neg e]
  cases A with
  | none=>rfl
  | some a=>simp[Addr.add]
theorem one_row {W:World} {g:Nat} {B:Option Addr} {q:List Int} {c:Nat} (hb:W.heap[g]?=some (.cells #[.slice B q.length c] 37 (0,0))) (hC:Kd.C (Kd.int .i64) W B q.length q) (hc:q.length≤c) :
  Kd.C (Kd.slice 3 (Kd.int .i64)) W (some ⟨g,0,none⟩) [q].length [q]:=by
 refine⟨rfl,by simp,fun _=>⟨_,rfl,fun j p hj=>?_⟩⟩
 have hj0:j=0:=by have:=(List.getElem?_eq_some_iff.1 hj).1;simp at this;omega
 subst hj0
 obtain rfl:q=p:=by simpa using hj
 refine⟨[.slice B q.length c],rfl,⟨B,c,rfl,hc,hC⟩,fun i u hu=>?_⟩
 have hi0:i=0:=by have:=(List.getElem?_eq_some_iff.1 hu).1;simp at this;omega
 subst hi0
 obtain rfl:Value.slice B q.length c=u:=by simpa using hu
 have:=cell_of (i:=0) hb rfl
 simpa[Addr.add] using this
theorem bump_len {κ:Type} [DecidableEq κ] (l:List (κ × Int)) (k:κ) (n:Int):(bump l k n).length=l.length+if hasK l k then 0 else 1:=by
 unfold bump
 by_cases h:hasK l k
 ·rw[if_pos h,if_pos h,List.length_map]
  omega
 ·rw[if_neg h,if_neg h,List.length_append]
  rfl
theorem cntL_one (q:List Int) (x:Int):cntL [q] x=q.count x:=by simp[cntL]
theorem cnt_tot (l:List (List Int)) (a:Int):cntL l a≤totL l:=by
 have h:=(fine_ofI l).get a
 rw[getN_ofI]at h
 omega
theorem kin_next (L:List (List Int)) {r:List Int} {j:Nat} {x:Int} (hx:r[j]?=some x) :
  (addI (ofI L) (r.take (j+1))).length=(addI (ofI L) (r.take j)).length+if cntL L x+cntL [r.take j] x=0 then 1 else 0:=by
 rw[addI_next _ hx,bump_len]
 congr 1
 have hf:=fine_addI (r.take j) (fine_ofI L)
 have hp:=hf.get_pos x
 rw[getN_addI,getN_ofI,←cntL_one (r.take j)]at hp
 by_cases h:cntL L x+cntL [r.take j] x=0
 ·rw[if_pos h,if_neg (fun q=>by have:=hp.1 q;omega)]
 ·rw[if_neg h,if_pos (hp.2 (Z0))]
theorem kin_le (L:List (List Int)) (r:List Int) (j:Nat):(addI (ofI L) (r.take j)).length≤totL L+r.length:=by
 have h:=(fine_addI (r.take j) (fine_ofI L)).m0
 have:=List.length_take_le j r
 rw[List.length_take]at h
 omega
theorem TalAt.blocks {lo hi d bi bp:Nat} {w w':World} {I:List (Int × Int)} {P:List ((Int × Int) × Int)} {n:Int} (h:TalAt lo hi w d bi bp I P n) (hb:∀ k,k<w.heap.size->w'.heap[k]?=w.heap[k]?):TalAt lo hi w' d bi bp I P n :=
 ⟨(hb _ (lt_of h.blk)).trans h.blk,h.ids.of_block (hb _ h.ids.lt),h.prs.of_block (hb _ h.prs.lt),h.ne,h.rd,h.ri,h.rp⟩
def nevL (l:List (List Int)) (nv:List Int):List Int:=nv.filter (fun x=>decide (cntL l x=0))
theorem nevL_next (l:List (List Int)) {nv:List Int} {m:Nat} {x:Int} (hx:nv[m]?=some x):nevL l (nv.take (m+1))=nevL l (nv.take m)++if cntL l x=0 then [x] else []:=by
 unfold nevL
 rw[List.take_add_one,hx,List.filter_append]
 congr 1
 show List.filter _ [x]=_
 rw[List.filter_cons,List.filter_nil]
 simp only[decide_eq_true_eq]
theorem nevL_eq (l:List (List Int)) (nv:List Int):nv.filter (fun x=>!decide (0<getN (ofI l) x))=nevL l nv:=by
 unfold nevL
 congr 1
 funext x
 rw[getN_ofI]
 by_cases h:cntL l x=0
 ·rw[h];rfl
 ·rw[decide_eq_false h,decide_eq_true (show (0:Int)<((cntL l x:Nat):Int) from Z0)];rfl
theorem tallyCounts_any (a b:Int) {A B:Option Addr} {c d:Nat} {l:List (List Int)} {nv:List Int} {w:World} (hr:Kd.C (Kd.slice 3 (Kd.int .i64)) w A l.length l) (hc:l.length≤c) (hl9:l.length≤9223372036854775807) (hn:Kd.C (Kd.int .i64) w B nv.length nv) (hd:nv.length≤d) :
  Calls Try.prog 5 #[.slice A l.length c,.int .i64 a,.int .i64 b,.slice B nv.length d] w fun e w'=>e=.returned (.bool true)/\Below w.heap.size w w':=by
 by_cases hgo:greatB l=true\/30<nv.length
 ·have hgo:greatB l=true\/(greatB l=false/\(30:Int)<(nv.length:Int)):=by
   cases h:greatB l with
   | true=>exact .inl rfl
   | false =>
    rw[h]at hgo
    exact .inr ⟨rfl,by rcases hgo with q|q;cases q;omega⟩
  have HGR:=As.mk (great_law hr hc hl9)
  clear hr hn
  generalize greatB l=g at *
  rcases hgo with rfl|⟨rfl,h30⟩
  all_goals
   go_enter Try.func5,Try.ntmps5
   go_wp2_with (first
    | (go_at_call 7;refine HGR.out.mono ?_;rintro e w1 ⟨rfl,hb⟩;have HB1:=As.mk hb;clear hb)
    | (go_at_call 8;refine(awake_any _).mono ?_;rintro e w2 ⟨rfl,hb⟩;have HB2:=As.mk (bt_ HB1.out hb);clear hb))
   go_ret
   exact⟨rfl,HB2.out⟩
 ·have hg0:greatB l=false:=by
   cases h:greatB l with
   | true=>exact absurd (.inl h) hgo
   | false=>rfl
  have hn30:nv.length≤30:=by
   rcases Nat.lt_or_ge 30 nv.length with q|q
   ·exact absurd (.inr q) hgo
   ·exact q
  clear hgo
  have hni:¬ (30:Int)<(nv.length:Int):=Z0
  obtain⟨hl12,hm⟩:=great_no hg0
  have HGR:=As.mk (great_law hr hc hl9)
  rw[hg0]at HGR
  have htt:totL l≤360:=by have:=tot_le hm;omega
  have HTT:=As.mk (And.intro htt (And.intro hl12 (And.intro hn30 (And.intro hc hd))))
  have HM:=As.mk hm
  have HR:=As.mk hr
  have HN:=As.mk hn
  have HOF:=As.mk (fun(W:World) (hb:Below w.heap.size w W)=>of_any (c:=c) (Kd.C_below hr hb) (Z0) hm)
  have HCNT:=As.mk (fun(W:World) (hb:Below w.heap.size w W) (x:Int)=>count_law (c:=c) (Kd.C_below hr hb) hc (Z0) (Z0) x)
  have HBEH:=As.mk (fun(W:World) (hb:Below w.heap.size w W)=>behind_law (c:=c) (Kd.C_below hr hb) hc (Z0) (Z0) a b)
  clear hr hn hm htt hl12 hg0 hn30 hl9
  go_enter Try.func5,Try.ntmps5
  go_wp2_with (first
   | (go_at_call 7;refine HGR.out.mono ?_;rintro e w1 ⟨rfl,hb⟩;have HB1:=As.mk hb;clear hb)
   | (go_at_call 8;refine(awake_any _).mono ?_;rintro e w2 ⟨rfl,hb⟩;have HB2:=As.mk (bt_ HB1.out hb);clear hb)
   | (go_at_call 9;refine(HOF.out _ HB2.out).mono ?_;rintro e w3 ⟨td,bi,bp,hi3,rfl,hle,ht,hb⟩;have HT3:=As.mk ht;have HB3:=As.mk (bt_ HB2.out hb);clear ht hb hle))
  clear HOF HGR HB1 HB2
  go_loopg [10,11,12] l.length (fun k v10 v11 v12 W=>∃ (i K S:Nat),v12=.int .i64 (i:Int)/\v11=.int .i64 (K:Int)/\v10=.int .i64 (S:Int)/\i≤l.length/\As (l.length-i≤k)/\As (K=(ofI (l.take i)).length)/\As (S=totL (l.take i))/\As (Below w3.heap.size w3 W))
  case atStart=>exact⟨0,0,0,rfl,rfl,rfl,Nat.zero_le _,⟨Z0⟩,⟨rfl⟩,⟨rfl⟩,⟨Below.refl _ _⟩⟩
  case round =>
   obtain⟨i,K,S,rfl,rfl,rfl,hi,HK,HKK,HSS,HW⟩:=hrel
   rename World=>W
   by_cases hlt:i<l.length
   ·have hltI:(i:Int)<(l.length:Int):=by omega
    obtain⟨k1,rfl⟩:∃ k1,gk=k1+1:=⟨gk-1,Z14⟩
    obtain⟨ad,Ai,ci,rfl,x0,hci,hCi⟩:=at_sl HR.out hlt
    have HX0:=As.mk x0
    have HX:=As.mk (List.getElem?_eq_getElem hlt)
    have HRL:=As.mk (HM.out _ (List.getElem_mem hlt))
    have HCI:=As.mk (And.intro hci hCi)
    have HNX:=As.mk (And.intro (ofI_snoc (l.take i) l[i]) (totL_snoc (l.take i) l[i]))
    rw[←take_snoc (List.getElem?_eq_getElem hlt)]at HNX
    have HWI:=As.mk (show wrap64 ((i:Int)+1)=(i:Int)+1 from w64 (Z0) (Z19))
    have hti:=tot_take l i
    have HWS:=As.mk (show wrap64 ((S:Int)+((l[i]).length:Int))=((S+(l[i]).length:Nat):Int) from (w64 (Z0) (by have h1:=HSS.out;have h2:=HTT.out;have h3:=HRL.out;omega)).trans (Z0))
    have HTI:=As.mk hti
    obtain⟨hs1,hC1⟩:=rows_to (m:=i) HR.out HTT.out.2.2.2.1 (Z0)
    have xr:=pw_cell_below (bt_ HB3.out HW.out) x0
    clear x0 hci hCi hti
    generalize l[i]=r at *
    obtain⟨S2,hS2⟩:∃ S2,S2=S+r.length:=⟨_,rfl⟩
    rw[←hS2]at HWS
    have hws:=HWS.out
    have HS2:=As.mk hS2
    clear hS2
    go_wp2
    clear hws
    go_loopg [11,13] r.length (fun k v11 v13 V=>∃ (j K2:Nat),v13=.int .i64 (j:Int)/\v11=.int .i64 (K2:Int)/\j≤r.length/\As (r.length-j≤k)/\As (K2=(addI (ofI (l.take i)) (r.take j)).length)/\As (Below w3.heap.size w3 V))
    case atStart=>exact⟨0,K,rfl,rfl,Nat.zero_le _,⟨Z0⟩,⟨by rw[List.take_zero];exact HKK.out⟩,HW⟩
    case round =>
     clear HW HKK xr
     obtain⟨j,K2,rfl,rfl,hj,HK2,HKJ,HV⟩:=hrel
     rename World=>V
     have HWV:=As.mk (bt_ HB3.out HV.out)
     have xr:=pw_cell_below HWV.out HX0.out
     by_cases hlj:j<r.length
     ·have hljI:(j:Int)<(r.length:Int):=by omega
      obtain⟨k2,rfl⟩:∃ k2,gk=k2+1:=⟨gk-1,by have:=HK2.out;omega⟩
      obtain⟨x,hx⟩:∃ x,r[j]?=some x:=⟨_,List.getElem?_eq_getElem hlj⟩
      obtain⟨pad,rfl,y0⟩:=rd_at HCI.out.2 hx
      have yr:=pw_cell_below HWV.out y0
      have HWJ:=As.mk (show wrap64 ((j:Int)+1)=(j:Int)+1 from w64 (Z0) (by have:=HRL.out;omega))
      have HKN:=As.mk (kin_next (l.take i) hx)
      have hkl:=kin_le (l.take i) r j
      rw[←HKJ.out]at hkl
      have HWK:=As.mk (show wrap64 ((K2:Int)+1)=(K2:Int)+1 from w64 (Z0) (by have h1:=HTI.out;have h2:=HTT.out;have h3:=HRL.out;omega))
      obtain⟨hs2,hC2⟩:=row_to (m:=j) HCI.out.2 HCI.out.1 (Z0)
      have hc1:=cnt_tot (l.take i) x
      have hc2:cntL [r.take j] x≤30:=by
       rw[cntL_one]
       have h1:=List.count_le_length (a:=x) (l:=r.take j)
       rw[List.length_take]at h1
       have h2:=HRL.out
       omega
      have HW3:=As.mk (show wrap64 (((cntL (l.take i) x:Nat):Int)+((cntL [r.take j] x:Nat):Int))=((cntL (l.take i) x+cntL [r.take j] x:Nat):Int) from (w64 (Z0) (by have h1:=HTI.out;have h2:=HTT.out;omega)).trans (Z0))
      have HC1:=As.mk (fun(W':World) (hb:Below V.heap.size V W')=>count_law (A:=some ad) (c:=c) (Kd.C_below hC1 (bt_ HWV.out hb)) (by rw[List.length_take];have:=HTT.out;omega) (by have h1:=HTI.out;have h2:=HTT.out;omega) (by rw[List.length_take];have:=HTT.out;omega) x)
      have HC2:=As.mk (fun(W':World) (g:Nat) (hg:W'.heap[g]?=some (.cells #[.slice (some pad) (r.take j).length ci] 37 (0,0))) (hb:Below V.heap.size V W')=>(show Calls Try.prog 12 #[.slice (some ⟨g,0,none⟩) 1 1,.int .i64 x] W' fun e w'=>e=.returned (.int .i64 ((cntL [r.take j] x:Nat):Int))/\Below W'.heap.size W' w' from
       count_law (c:=1) (one_row hg (Kd.C_below hC2 (bt_ HWV.out hb)) (by rw[List.length_take];have:=HCI.out.1;omega)) (Nat.le_refl _) (by show totL [r.take j]≤1000000;rw[totL_cons,List.length_take];have:=HRL.out;have:totL []=0:=rfl;omega) (by simp) x))
      clear hC1 hC2 hc1 hc2 hkl y0 hx
      generalize hN1:cntL (l.take i) x=n1 at *
      generalize hN2:cntL [r.take j] x=n2 at *
      obtain⟨n3,hn3⟩:∃ n3,n3=n1+n2:=⟨_,rfl⟩
      rw[←hn3]at HW3 HKN
      have HN3:=As.mk hn3
      clear hn3 hN1 hN2
      generalize hRT:r.take j=RT at *
      generalize hLT:l.take i=LT at *
      have HRT:=As.mk (And.intro hRT hLT)
      clear hRT hLT
      go_wp2_with fail
      refine start_ (n:=28) (S:=fun w'=>Below V.heap.size V w') (ds:=[]) #[false,false,false,false,false,false,false,false,false,false,false,false,false,false,false,false,false,false,false,false,false,false,false,false,false,false,false,false] (Z7) rfl rfl (below_drew1 (Below.refl _ _)) (fun hHeld=>?_)
      refine pure_ (i:=0) (N:=some 52) (v:=?_) (a':=?_) #[true,false,false,false,false,false,false,false,false,false,false,false,false,false,false,false,false,false,false,false,false,false,false,false,false,false,false,false] rfl rfl (Z7) (fun _ _ _ h=>h) (Or.inl ⟨by rfl,?_⟩) ?_ ?_
      rotate_left
      ·intro w'
       go_simp
       with_reducible rfl
      rotate_left
      ·simp only[Act.put,List.setIfInBounds_toArray,List.set_cons_zero,List.set_cons_succ,i64_w,i32_w]
       rfl
      refine pure_ (i:=1) (N:=some 53) (v:=?_) (a':=?_) #[true,true,false,false,false,false,false,false,false,false,false,false,false,false,false,false,false,false,false,false,false,false,false,false,false,false,false,false] rfl rfl (Z7) (fun _ _ _ h=>h) (Or.inl ⟨by rfl,?_⟩) ?_ ?_
      rotate_left
      ·intro w'
       go_simp
       with_reducible rfl
      rotate_left
      ·simp only[Act.put,List.setIfInBounds_toArray,List.set_cons_zero,List.set_cons_succ,i64_w,i32_w]
       rfl
      refine pure_ (i:=2) (N:=some 54) (v:=?_) (a':=?_) #[true,true,true,false,false,false,false,false,false,false,false,false,false,false,false,false,false,false,false,false,false,false,false,false,false,false,false,false] rfl rfl (Z7) (fun _ _ _ h=>h) (Or.inl ⟨by rfl,?_⟩) ?_ ?_
      rotate_left
      ·intro w'
       go_simp
       with_reducible rfl
      rotate_left
      ·simp only[Act.put,List.setIfInBounds_toArray,List.set_cons_zero,List.set_cons_succ,i64_w,i32_w]
       rfl
      refine pure_ (i:=3) (N:=some 55) (v:=?_) (a':=?_) #[true,true,true,true,false,false,false,false,false,false,false,false,false,false,false,false,false,false,false,false,false,false,false,false,false,false,false,false] rfl rfl (Z7) (fun _ _ _ h=>h) (Or.inl ⟨by rfl,?_⟩) ?_ ?_
      rotate_left
      ·intro w'
       go_simp
       with_reducible rfl
      rotate_left
      ·simp only[Act.put,List.setIfInBounds_toArray,List.set_cons_zero,List.set_cons_succ,i64_w,i32_w]
       rfl
      refine pure_ (i:=4) (N:=some 56) (v:=?_) (a':=?_) #[true,true,true,true,true,false,false,false,false,false,false,false,false,false,false,false,false,false,false,false,false,false,false,false,false,false,false,false] rfl rfl (Z7) (fun _ _ _ h=>h) (Or.inl ⟨by rfl,?_⟩) ?_ ?_
      rotate_left
      ·intro w'
       go_simp
       with_reducible rfl
      rotate_left
      ·simp only[Act.put,List.setIfInBounds_toArray,List.set_cons_zero,List.set_cons_succ,i64_w,i32_w]
       rfl
      refine pure_ (i:=5) (N:=some 57) (v:=?_) (a':=?_) #[true,true,true,true,true,true,false,false,false,false,false,false,false,false,false,false,false,false,false,false,false,false,false,false,false,false,false,false] rfl rfl (Z7) (fun _ _ _ h=>h) (Or.inl ⟨by rfl,?_⟩) ?_ ?_
      rotate_left
      ·intro w'
       go_simp
       with_reducible rfl
      rotate_left
      ·simp only[Act.put,List.setIfInBounds_toArray,List.set_cons_zero,List.set_cons_succ,i64_w,i32_w]
       rfl
      refine pure_ (i:=7) (N:=some 59) (v:=?_) (a':=?_) #[true,true,true,true,true,true,false,true,false,false,false,false,false,false,false,false,false,false,false,false,false,false,false,false,false,false,false,false] rfl rfl (Z7) (fun _ _ _ h=>h) (Or.inl ⟨by rfl,?_⟩) ?_ ?_
      rotate_left
      ·intro w'
       go_simp
       with_reducible rfl
      rotate_left
      ·simp only[Act.put,List.setIfInBounds_toArray,List.set_cons_zero,List.set_cons_succ,i64_w,i32_w]
       rfl
      refine pure_ (i:=11) (N:=some 63) (v:=?_) (a':=?_) #[true,true,true,true,true,true,false,true,false,false,false,true,false,false,false,false,false,false,false,false,false,false,false,false,false,false,false,false] rfl rfl (Z7) (fun _ _ _ h=>h) (Or.inl ⟨by rfl,?_⟩) ?_ ?_
      rotate_left
      ·intro w'
       go_simp
       with_reducible rfl
      rotate_left
      ·simp only[Act.put,List.setIfInBounds_toArray,List.set_cons_zero,List.set_cons_succ,i64_w,i32_w]
       rfl
      refine pure_ (i:=12) (N:=some 64) (v:=?_) (a':=?_) #[true,true,true,true,true,true,false,true,false,false,false,true,true,false,false,false,false,false,false,false,false,false,false,false,false,false,false,false] rfl rfl (Z7) (fun _ _ _ h=>h) (Or.inl ⟨by rfl,?_⟩) ?_ ?_
      rotate_left
      ·intro w'
       go_simp
       with_reducible rfl
      rotate_left
      ·simp only[Act.put,List.setIfInBounds_toArray,List.set_cons_zero,List.set_cons_succ,i64_w,i32_w]
       rfl
      refine pure_ (i:=13) (N:=some 65) (v:=?_) (a':=?_) #[true,true,true,true,true,true,false,true,false,false,false,true,true,true,false,false,false,false,false,false,false,false,false,false,false,false,false,false] rfl rfl (Z7) (fun _ _ _ h=>h) (Or.inl ⟨by rfl,?_⟩) ?_ ?_
      rotate_left
      ·intro w'
       go_simp
       with_reducible rfl
      rotate_left
      ·simp only[Act.put,List.setIfInBounds_toArray,List.set_cons_zero,List.set_cons_succ,i64_w,i32_w]
       rfl
      refine pure_ (i:=15) (N:=some 67) (v:=?_) (a':=?_) #[true,true,true,true,true,true,false,true,false,false,false,true,true,true,false,true,false,false,false,false,false,false,false,false,false,false,false,false] rfl rfl (Z7) (fun _ _ _ h=>h) (Or.inl ⟨by rfl,?_⟩) ?_ ?_
      rotate_left
      ·intro w'
       go_simp
       with_reducible rfl
      rotate_left
      ·simp only[Act.put,List.setIfInBounds_toArray,List.set_cons_zero,List.set_cons_succ,i64_w,i32_w]
       rfl
      refine pure_ (i:=18) (N:=some 70) (v:=?_) (a':=?_) #[true,true,true,true,true,true,false,true,false,false,false,true,true,true,false,true,false,false,true,false,false,false,false,false,false,false,false,false] rfl rfl (Z7) (fun _ _ _ h=>h) (Or.inl ⟨by rfl,?_⟩) ?_ ?_
      rotate_left
      ·intro w'
       go_simp
       with_reducible rfl
      rotate_left
      ·simp only[Act.put,List.setIfInBounds_toArray,List.set_cons_zero,List.set_cons_succ,i64_w,i32_w]
       rfl
      refine pure_ (i:=19) (N:=some 71) (v:=?_) (a':=?_) #[true,true,true,true,true,true,false,true,false,false,false,true,true,true,false,true,false,false,true,true,false,false,false,false,false,false,false,false] rfl rfl (Z7) (fun _ _ _ h=>h) (Or.inl ⟨by rfl,?_⟩) ?_ ?_
      rotate_left
      ·intro w'
       go_simp
       with_reducible rfl
      rotate_left
      ·simp only[Act.put,List.setIfInBounds_toArray,List.set_cons_zero,List.set_cons_succ,i64_w,i32_w]
       rfl
      refine pure_ (i:=20) (N:=some 72) (v:=?_) (a':=?_) #[true,true,true,true,true,true,false,true,false,false,false,true,true,true,false,true,false,false,true,true,true,false,false,false,false,false,false,false] rfl rfl (Z7) (fun _ _ _ h=>h) (Or.inl ⟨by rfl,?_⟩) ?_ ?_
      rotate_left
      ·intro w'
       go_simp
       with_reducible rfl
      rotate_left
      ·simp only[Act.put,List.setIfInBounds_toArray,List.set_cons_zero,List.set_cons_succ,i64_w,i32_w]
       rfl
      refine pure_ (i:=22) (N:=some 74) (v:=?_) (a':=?_) #[true,true,true,true,true,true,false,true,false,false,false,true,true,true,false,true,false,false,true,true,true,false,true,false,false,false,false,false] rfl rfl (Z7) (fun _ _ _ h=>h) (Or.inl ⟨by rfl,?_⟩) ?_ ?_
      rotate_left
      ·intro w'
       go_simp
       with_reducible rfl
      rotate_left
      ·simp only[Act.put,List.setIfInBounds_toArray,List.set_cons_zero,List.set_cons_succ,i64_w,i32_w]
       rfl
      refine take_ (i:=6) (N:=some 58) (v:=?_) (a':=?_) #[true,true,true,true,true,true,true,true,false,false,false,true,true,true,false,true,false,false,true,true,true,false,true,false,false,false,false,false] rfl rfl (Z7) (fun _ _ _ h=>h) (Or.inl ⟨by rfl,?_⟩) hHeld ?_ ?_
      rotate_left
      ·intro w' hS'
       have s0:=hS'
       have xr':=pw_cell_below hS' xr;have yr':=pw_cell_below hS' yr;go_simp
       with_reducible rfl
      rotate_left
      ·simp only[Act.put,List.setIfInBounds_toArray,List.set_cons_zero,List.set_cons_succ,i64_w,i32_w]
       rfl
      refine pure_ (i:=8) (N:=some 60) (v:=?_) (a':=?_) #[true,true,true,true,true,true,true,true,true,false,false,true,true,true,false,true,false,false,true,true,true,false,true,false,false,false,false,false] rfl rfl (Z7) (fun _ _ _ h=>h) (Or.inl ⟨by rfl,?_⟩) ?_ ?_
      rotate_left
      ·intro w'
       go_simp
       with_reducible rfl
      rotate_left
      ·simp only[Act.put,List.setIfInBounds_toArray,List.set_cons_zero,List.set_cons_succ,i64_w,i32_w]
       rfl
      refine take_ (i:=9) (N:=some 61) (v:=?_) (a':=?_) #[true,true,true,true,true,true,true,true,true,true,false,true,true,true,false,true,false,false,true,true,true,false,true,false,false,false,false,false] rfl rfl (Z7) (fun _ _ _ h=>h) (Or.inl ⟨by rfl,?_⟩) hHeld ?_ ?_
      rotate_left
      ·intro w' hS'
       have s0:=hS'
       have xr':=pw_cell_below hS' xr;have yr':=pw_cell_below hS' yr;go_simp
       with_reducible rfl
      rotate_left
      ·simp only[Act.put,List.setIfInBounds_toArray,List.set_cons_zero,List.set_cons_succ,i64_w,i32_w]
       rfl
      refine take_ (i:=14) (N:=some 66) (v:=?_) (a':=?_) #[true,true,true,true,true,true,true,true,true,true,false,true,true,true,true,true,false,false,true,true,true,false,true,false,false,false,false,false] rfl rfl (Z7) (fun _ _ _ h=>h) (Or.inl ⟨by rfl,?_⟩) hHeld ?_ ?_
      rotate_left
      ·intro w' hS'
       have s0:=hS'
       have xr':=pw_cell_below hS' xr;have yr':=pw_cell_below hS' yr;go_simp
       with_reducible rfl
      rotate_left
      ·simp only[Act.put,List.setIfInBounds_toArray,List.set_cons_zero,List.set_cons_succ,i64_w,i32_w]
       rfl
      refine pure_ (i:=16) (N:=some 68) (v:=?_) (a':=?_) #[true,true,true,true,true,true,true,true,true,true,false,true,true,true,true,true,true,false,true,true,true,false,true,false,false,false,false,false] rfl rfl (Z7) (fun _ _ _ h=>h) (Or.inl ⟨by rfl,?_⟩) ?_ ?_
      rotate_left
      ·intro w'
       go_simp
       with_reducible rfl
      rotate_left
      ·simp only[Act.put,List.setIfInBounds_toArray,List.set_cons_zero,List.set_cons_succ,i64_w,i32_w]
       rfl
      refine take_ (i:=21) (N:=some 73) (v:=?_) (a':=?_) #[true,true,true,true,true,true,true,true,true,true,false,true,true,true,true,true,true,false,true,true,true,true,true,false,false,false,false,false] rfl rfl (Z7) (fun _ _ _ h=>h) (Or.inl ⟨by rfl,?_⟩) hHeld ?_ ?_
      rotate_left
      ·intro w' hS'
       have s0:=hS'
       have xr':=pw_cell_below hS' xr;have yr':=pw_cell_below hS' yr;go_simp
       with_reducible rfl
      rotate_left
      ·simp only[Act.put,List.setIfInBounds_toArray,List.set_cons_zero,List.set_cons_succ,i64_w,i32_w]
       rfl
      refine pure_ (i:=23) (N:=some 75) (v:=?_) (a':=?_) #[true,true,true,true,true,true,true,true,true,true,false,true,true,true,true,true,true,false,true,true,true,true,true,true,false,false,false,false] rfl rfl (Z7) (fun _ _ _ h=>h) (Or.inl ⟨by rfl,?_⟩) ?_ ?_
      rotate_left
      ·intro w'
       go_simp
       with_reducible rfl
      rotate_left
      ·simp only[Act.put,List.setIfInBounds_toArray,List.set_cons_zero,List.set_cons_succ,i64_w,i32_w]
       rfl
      refine take_ (i:=24) (N:=some 76) (v:=?_) (a':=?_) #[true,true,true,true,true,true,true,true,true,true,false,true,true,true,true,true,true,false,true,true,true,true,true,true,true,false,false,false] rfl rfl (Z7) (fun _ _ _ h=>h) (Or.inl ⟨by rfl,?_⟩) hHeld ?_ ?_
      rotate_left
      ·intro w' hS'
       have s0:=hS'
       have xr':=pw_cell_below hS' xr;have yr':=pw_cell_below hS' yr;go_simp
       with_reducible rfl
      rotate_left
      ·simp only[Act.put,List.setIfInBounds_toArray,List.set_cons_zero,List.set_cons_succ,i64_w,i32_w]
       rfl
      have HS5:=As.mk hHeld
      clear hHeld
      generalize V.drew=w5 at HS5 ⊢
      refine join_ 3 #[true,true,true,true,true,true,true,true,true,true,true,true,true,true,true,true,true,true,true,true,true,true,true,true,true,false,false,false] (fun(q:Nat)=>[(62,.int .i64 (n1:Int)),(69,.slice (some ⟨q,0,none⟩) 1 1)]) (fun q W'=>Below V.heap.size V W'/\W'.heap[q]?=some (.cells #[.slice (some pad) RT.length ci] 37 (0,0))) ?_ ?_
      rotate_left
      ·intro hcont
       refine two_ (i:=10) (j:=17) (Ni:=some 62) (Nj:=some 69) #[true,true,true,true,true,true,true,true,true,true,true,true,true,true,true,true,true,false,true,true,true,true,true,true,true,false,false,false] #[true,true,true,true,true,true,true,true,true,true,false,true,true,true,true,true,true,true,true,true,true,true,true,true,true,false,false,false] rfl rfl rfl rfl (Z7) (Z15) (Z15) (fun K hK=>?_) (fun K hK=>?_)
       ·refine goes_ Try.func12 (Z7) rfl #[.slice (some ad) LT.length c,.int .i64 x] (by rfl) rfl rfl (Z17) ?_
        refine(HC1.out _ HS5.out).mono ?_
        rintro e w6 ⟨rfl,hb⟩
        refine⟨_,rfl,?_⟩
        have hSw6:=bt_ HS5.out hb
        refine hK.out _ _ hSw6 (fun _=>?_)
        clear hK K
        refine norm_ (a':=?_) ?_ ?_
        rotate_left
        ·(simp only[Act.put,List.setIfInBounds_toArray,List.set_cons_zero,List.set_cons_succ];rfl)
        refine one_ (i:=17) (N:=some 69) #[true,true,true,true,true,true,true,true,true,true,true,true,true,true,true,true,true,true,true,true,true,true,true,true,true,false,false,false] rfl rfl (Z7) (Z15) (fun K hK=>?_)
        refine value_ (w1:=w6.alloc (.cells #[.slice (some pad) RT.length ci] 37)) (v:=.slice (some ⟨w6.heap.size,0,none⟩) 1 1) (by rfl) rfl ?_ ?_
        ·first|(go_simp;done)|(go_simp;rfl)
        have hSw7:=below_alloc hSw6 (.cells #[.slice (some pad) RT.length ci] 37)
        have hGw7:=(Go.MapKept.heap_alloc w6 (.cells #[.slice (some pad) RT.length ci] 37)).1
        refine hK.out _ _ hSw7 (fun _=>?_)
        clear hK K
        refine norm_ (a':=?_) ?_ ?_
        rotate_left
        ·(simp only[Act.put,List.setIfInBounds_toArray,List.set_cons_zero,List.set_cons_succ];rfl)
        exact norm_ (Z20) (hcont w6.heap.size _ ⟨hSw7,hGw7⟩)
       ·refine value_ (w1:=w5.alloc (.cells #[.slice (some pad) RT.length ci] 37)) (v:=.slice (some ⟨w5.heap.size,0,none⟩) 1 1) (by rfl) rfl ?_ ?_
        ·first|(go_simp;done)|(go_simp;rfl)
        have hSw6:=below_alloc HS5.out (.cells #[.slice (some pad) RT.length ci] 37)
        have hGw6:=(Go.MapKept.heap_alloc w5 (.cells #[.slice (some pad) RT.length ci] 37)).1
        refine hK.out _ _ hSw6 (fun _=>?_)
        clear hK K
        refine norm_ (a':=?_) ?_ ?_
        rotate_left
        ·(simp only[Act.put,List.setIfInBounds_toArray,List.set_cons_zero,List.set_cons_succ];rfl)
        refine one_ (i:=10) (N:=some 62) #[true,true,true,true,true,true,true,true,true,true,true,true,true,true,true,true,true,true,true,true,true,true,true,true,true,false,false,false] rfl rfl (Z7) (Z15) (fun K hK=>?_)
        refine goes_ Try.func12 (Z7) rfl #[.slice (some ad) LT.length c,.int .i64 x] (by rfl) rfl rfl (Z17) ?_
        refine(HC1.out _ hSw6).mono ?_
        rintro e w7 ⟨rfl,hb⟩
        refine⟨_,rfl,?_⟩
        have hSw7:=bt_ hSw6 hb
        have hGw7:=(hb.block _ (lt_of hGw6)).trans hGw6
        refine hK.out _ _ hSw7 (fun _=>?_)
        clear hK K
        refine norm_ (a':=?_) ?_ ?_
        rotate_left
        ·(simp only[Act.put,List.setIfInBounds_toArray,List.set_cons_zero,List.set_cons_succ];rfl)
        exact norm_ (Z20) (hcont w5.heap.size _ ⟨hSw7,hGw7⟩)
      ·rintro q w8 ⟨hS8,hq8⟩
       refine norm_ (a':=?_) ?_ ?_
       rotate_left
       ·(simp only[Act.put,putAll,List.setIfInBounds_toArray,List.set_cons_zero,List.set_cons_succ];rfl)
       have hw3:=HW3.out
       refine one_ (i:=25) (N:=some 77) #[true,true,true,true,true,true,true,true,true,true,true,true,true,true,true,true,true,true,true,true,true,true,true,true,true,true,false,false] rfl rfl (Z7) (Z15) (fun K hK=>?_)
       refine goes_ Try.func12 (Z7) rfl #[.slice (some ⟨q,0,none⟩) 1 1,.int .i64 x] (by rfl) rfl rfl (Z17) ?_
       refine(HC2.out _ q hq8 hS8).mono ?_
       rintro e w9 ⟨rfl,hb⟩
       refine⟨_,rfl,?_⟩
       have HS9:=As.mk (bt_ hS8 hb)
       refine hK.out _ _ HS9.out (fun _=>?_)
       clear hK K hb
       refine norm_ (a':=?_) ?_ ?_
       rotate_left
       ·(simp only[Act.put,List.setIfInBounds_toArray,List.set_cons_zero,List.set_cons_succ];rfl)
       refine pure_ (i:=26) (N:=some 78) (v:=?_) (a':=?_) #[true,true,true,true,true,true,true,true,true,true,true,true,true,true,true,true,true,true,true,true,true,true,true,true,true,true,true,false] rfl rfl (Z7) (fun _ _ _ h=>h) (Or.inl ⟨by rfl,?_⟩) ?_ ?_
       rotate_left
       ·intro w'
        go_simp
        with_reducible rfl
       rotate_left
       ·simp only[Act.put,List.setIfInBounds_toArray,List.set_cons_zero,List.set_cons_succ,i64_w,i32_w]
        rfl
       refine pure_ (i:=27) (N:=some 79) (v:=?_) (a':=?_) #[true,true,true,true,true,true,true,true,true,true,true,true,true,true,true,true,true,true,true,true,true,true,true,true,true,true,true,true] rfl rfl (Z7) (fun _ _ _ h=>h) (Or.inl ⟨by rfl,?_⟩) ?_ ?_
       rotate_left
       ·intro w'
        go_simp
        with_reducible rfl
       rotate_left
       ·simp only[Act.put,List.setIfInBounds_toArray,List.set_cons_zero,List.set_cons_succ,i64_w,i32_w]
        rfl
       refine done_ (Z7) ?_
       have HV9:=As.mk (bt_ HV.out HS9.out)
       clear hS8 hq8 HC1 HC2 xr yr hs1 hs2 hw3
       have hwj:=HWJ.out
       have hwk:=HWK.out
       by_cases hz:n3=0
       ·subst hz
        go_wp2
        clear hwj hwk
        go_roundg k2
        case measure=>omega
        case rel=>exact⟨j+1,K2+1,by first|(rw[HWJ.out];go_num)|go_num,by first|(rw[HWK.out];go_num)|go_num,Z0,⟨by have:=HK2.out;omega⟩,⟨by have h:=HKN.out;rw[←HKJ.out]at h;rw[h];simp⟩,HV9⟩
       ·have hzI:((n3:Int)==0)=false:=by simpa using hz
        go_wp2
        clear hwj hwk
        go_roundg k2
        case measure=>omega
        case rel=>exact⟨j+1,K2,by first|(rw[HWJ.out];go_num)|go_num,rfl,Z0,⟨by have:=HK2.out;omega⟩,⟨by have h:=HKN.out;rw[←HKJ.out]at h;rw[h];simp[hz]⟩,HV9⟩
     ·obtain rfl:j=r.length:=by omega
      have HKE:=As.mk (show K2=(ofI (l.take (i+1))).length by rw[HKJ.out,List.take_length,HNX.out.1])
      clear HKJ
      have hwi:=HWI.out
      go_wp2
      clear hwi
      go_roundg k1
      case measure=>omega
      case rel=>exact⟨i+1,K2,S2,by first|(rw[HWI.out];go_num)|go_num,rfl,by first|rfl|rw[HWS.out],Z0,⟨Z14⟩,HKE,⟨by rw[HNX.out.2,HS2.out,HSS.out]⟩,HV⟩
   ·obtain rfl:i=l.length:=by omega
    rw[List.take_length]at HKK HSS
    obtain rfl:=HKK.out
    obtain rfl:=HSS.out
    clear HKK HSS HK
    generalize hKN:(ofI l).length=KN at *
    have HKN:=As.mk hKN
    generalize hTL:totL l=TL at *
    have HTL:=As.mk hTL
    clear hKN hTL
    go_wp2
    go_loopg [14,15] nv.length (fun k v14 v15 V=>∃ (m:Nat),v15=.int .i64 (m:Int)/\m≤nv.length/\As (nv.length-m≤k)/\As (Kd.R (Kd.int .i64) 3 V w3.heap.size (fun _=>True) v14 (nevL l (nv.take m)))/\As (Below w3.heap.size w3 V))
    case atStart=>exact⟨0,rfl,Nat.zero_le _,⟨Z0⟩,⟨Kd.R_nil _ _ _ _ _⟩,HW⟩
    case round =>
     clear HW
     obtain⟨m,rfl,hmn,HK,HO,HV⟩:=hrel
     rename World=>V
     have HWV:=As.mk (bt_ HB3.out HV.out)
     by_cases hlm:m<nv.length
     ·have hlmI:(m:Int)<(nv.length:Int):=by omega
      obtain⟨k1,rfl⟩:∃ k1,gk=k1+1:=⟨gk-1,Z14⟩
      obtain⟨x,hx⟩:∃ x,nv[m]?=some x:=⟨_,List.getElem?_eq_getElem hlm⟩
      obtain⟨nad,rfl,y0⟩:=rd_at HN.out hx
      have yr:=pw_cell_below HWV.out y0
      have hwm:wrap64 ((m:Int)+1)=(m:Int)+1:=w64 (Z0) (Z19)
      have hnx:=nevL_next l hx
      have HC1:=As.mk (fun(W':World) (hb:Below w.heap.size w W')=>HCNT.out W' hb x)
      have HLE:=As.mk (show (nevL l (nv.take m)).length≤30 by
       unfold nevL
       have h1:=List.length_filter_le (fun x=>decide (cntL l x=0)) (nv.take m)
       rw[List.length_take]at h1
       have:=HTT.out
       omega)
      generalize cntL l x=n1 at *
      by_cases hz:n1=0
      ·subst hz
       rw[if_pos rfl]at hnx
       have HNX:=As.mk hnx
       clear hnx hx y0
       generalize nevL l (nv.take m)=xs at *
       go_wp2_with (first
        | (go_at_call 12;refine(HC1.out _ HWV.out).mono ?_;rintro e w4 ⟨rfl,hb⟩;have HO4:=As.mk (Kd.R_below HO.out hb);have HV4:=As.mk (bt_ HV.out hb);have HB4:=As.mk (bt_ HB3.out HV4.out);have yr2:=pw_cell_below hb yr;clear hb HO HV yr)
        | ((with_reducible refine gate_builtin (b:=.append) (xs:=#[.tmp 95,.tmp 100]) rfl ?_);at_builtin;go_loud (refine Kd.R_append (Kd.int .i64) (w0:=w3) (W:=w4) w3.heap.size rfl (.tmp 95) (.tmp 100) 37 3 (.int .i64 0) 8 rfl Try.underlying37 infoI rfl (Z15) (Z0) _ xs x [.int .i64 x] (fun _=>True) (fun _=>False) (by rfl) (by first|rfl|simp[Act.eval,go_sem]) rfl (fun _ hk=>hk.elim) (fun _ _=>trivial) HO4.out HV4.out HV4.out.size (by have:=HLE.out;omega) ?_;intro u6 w6 ho hb hg hat;have HO6:=As.mk ho;have HB6:=As.mk hb;clear ho hb hg hat)))
       go_roundg k1
       case measure=>omega
       case rel=>exact⟨m+1,by go_num,Z0,⟨Z14⟩,⟨by rw[HNX.out];exact HO6.out⟩,HB6⟩
      ·rw[if_neg hz,List.append_nil]at hnx
       have HNX:=As.mk hnx
       have hzI:((n1:Int)==0)=false:=by simpa using hz
       clear hnx hx y0
       go_wp2_with (go_at_call 12;refine(HC1.out _ HWV.out).mono ?_;rintro e w4 ⟨rfl,hb⟩;have HO4:=As.mk (Kd.R_below HO.out hb);have HV4:=As.mk (bt_ HV.out hb);clear hb HO HV)
       go_roundg k1
       case measure=>omega
       case rel=>exact⟨m+1,by go_num,Z0,⟨Z14⟩,⟨by rw[HNX.out];exact HO4.out⟩,HV4⟩
     ·obtain rfl:m=nv.length:=by omega
      rw[List.take_length]at HO
      obtain⟨A14,c14,rfl⟩:=Kd.R_slice HO.out
      have HT4:=As.mk (HT3.out.below HV.out)
      have HNV:=As.mk (fun(W:World) (hb:Below V.heap.size V W)=>never_any (pt:=some ⟨td,0,none⟩) (p:=fun x=>decide (0<getN (ofI l) x)) (c:=d) (Kd.C_below HN.out (bt_ HWV.out hb)) (Z19) (fun W' hW x=>(count_any ((HT4.out.below hb).blocks hW) x).mono fun e w' he=>⟨⟨_,he.1,rfl⟩,he.2⟩))
      rw[nevL_eq]at HNV
      have HNL:=As.mk (show (nevL l nv).length≤30 by
       unfold nevL
       have h1:=List.length_filter_le (fun x=>decide (cntL l x=0)) nv
       have:=HTT.out
       omega)
      generalize nevL l nv=xs at *
      have HCO:=As.mk (count_any HT4.out a)
      have HBH:=As.mk (fun(W:World) (hb:Below V.heap.size V W)=>behind_any (HT4.out.below hb) a b)
      rw[getN_ofI]at HCO
      rw[getN_ofP]at HBH
      have HTO:=As.mk (fun(W:World) (hb:Below V.heap.size V W)=>total_any (HT4.out.below hb))
      have HKI:=As.mk (fun(W:World) (hb:Below V.heap.size V W)=>kinds_any (HT4.out.below hb))
      rw[HKN.out]at HKI
      have HC1:=As.mk (HCNT.out _ HWV.out a)
      have HB1:=As.mk (fun(W:World) (hb:Below V.heap.size V W)=>HBEH.out _ (bt_ HWV.out hb))
      generalize cntL l a=n1 at *
      generalize behL l a b=n2 at *
      clear HCNT HBEH HN HR HM HT3 HT4 HV HKN HTL
      go_wp2_with (first
       | (go_at_call 17;refine HCO.out.mono ?_;rintro e w4 ⟨rfl,rfl⟩)
       | (go_at_call 12;refine HC1.out.mono ?_;rintro e w5 ⟨rfl,hb⟩;have HB5:=As.mk hb;clear hb)
       | (go_at_call 18;refine(HBH.out _ HB5.out).mono ?_;rintro e w6 ⟨rfl,rfl⟩)
       | (go_at_call 13;refine(HB1.out _ HB5.out).mono ?_;rintro e w6 ⟨rfl,hb⟩;have HB6:=As.mk (bt_ HB5.out hb);clear hb)
       | (go_at_call 14;refine(HTO.out _ HB6.out).mono ?_;rintro e w7 ⟨rfl,rfl⟩)
       | (go_at_call 15;refine(HKI.out _ HB6.out).mono ?_;rintro e w7 ⟨rfl,rfl⟩)
       | (go_at_call 20;go_loud (refine(HNV.out _ HB6.out).mono ?_;rintro e w7 ⟨v7,rfl,ho,hb⟩;have HB7:=As.mk (bt_ HB6.out hb);have HO7:=As.mk ho;clear ho hb;obtain⟨A7,c7,rfl⟩:=Kd.R_slice HO7.out))
       | (go_at_call 19;go_loud (refine(Hp.ints_any xs xs A7 A14 c7 c14 _ (Kd.R_reads' HO7.out).2.2 (Kd.R_reads' HO7.out).2.1 (Kd.R_reads' (Kd.R_below HO.out HB7.out)).2.2 (Kd.R_reads' HO.out).2.1 (by have:=HNL.out;omega)).mono ?_;rw[decide_eq_true (show xs=xs from rfl)];rintro e w8 ⟨rfl,hd⟩;have HB8:=As.mk (bt_ HB7.out (dr_below hd));clear hd)))
      go_ret
      exact⟨rfl,bt_ HWV.out HB8.out⟩
end Go.Proofs.Ythcpdiknejblnaa.Ta
