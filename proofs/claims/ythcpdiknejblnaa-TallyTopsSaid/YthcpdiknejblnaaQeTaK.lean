import Derived.Test.YthcpdiknejblnaaQeTaP
import Derived.Test.YthcpdiknejblnaaQeTaU
import Derived.Test.YthcpdiknejblnaaQe01
set_option linter.unusedVariables false
set_option linter.unusedSimpArgs false
namespace Go.Proofs.Ythcpdiknejblnaa.Ta
open Go Go.RowKit YthcpdiknejblnaaW.PrintWords YthcpdiknejblnaaW.PrintLast YthcpdiknejblnaaW.PrintMore Rf Aid Hp
def cntL (l:List (List Int)) (a:Int):Nat:=(l.map (fun r=>r.count a)).sum
def behL (l:List (List Int)) (a b:Int):Nat:=(l.map (fun r=>(twos r).count (a,b))).sum
def totL (l:List (List Int)):Nat:=(l.map List.length).sum
theorem cntL_cons (r:List Int) (l:List (List Int)) (a:Int):cntL (r::l) a=r.count a+cntL l a:=by simp[cntL]
theorem behL_cons (r:List Int) (l:List (List Int)) (a b:Int):behL (r::l) a b=(twos r).count (a,b)+behL l a b:=by simp[behL]
theorem totL_cons (r:List Int) (l:List (List Int)):totL (r::l)=r.length+totL l:=by simp[totL]
theorem rdL {l:List (List Int)} {i:Nat} {r:List Int} (h:l[i]?=some r):rd_L1 l (i:Int)=r:=by
 unfold rd_L1
 rw[Int.toNat_natCast,List.getD_eq_getElem?_getD,h]
 rfl
theorem rdE {r:List Int} {j:Nat} {x:Int} (h:r[j]?=some x):rd r (j:Int)=x:=by
 obtain⟨hl,e⟩:=List.getElem?_eq_some_iff.1 h
 rw[rdI hl,e]
theorem drop_at {α:Type} {l:List α} {i:Nat} {r:α} (h:l[i]?=some r):l.drop i=r::l.drop (i+1):=by
 obtain⟨hl,e⟩:=List.getElem?_eq_some_iff.1 h
 rw[List.drop_eq_getElem_cons hl,e]
def Ev {α:Type} (g:Nat->Option α) (r:α):Prop:=∃ k0,∀ k,k0≤k->g k=some r
theorem Ev.step {α:Type} {g g':Nat->Option α} {r:α} (h:∀ k,g (k+1)=g' k) (he:Ev g' r):Ev g r:=by
 obtain⟨k0,hk⟩:=he
 refine⟨k0+1,fun k hle=>?_⟩
 obtain⟨m,rfl⟩:∃ m,k=m+1:=⟨k-1,Z0⟩
 rw[h]
 exact hk m (Z0)
theorem Ev.now {α:Type} {g:Nat->Option α} {r:α} (h:∀ k,g (k+1)=some r):Ev g r:=⟨1,fun k hle=>by
 obtain⟨m,rfl⟩:∃ m,k=m+1:=⟨k-1,Z0⟩
 exact h m⟩
theorem cnt_in (l:List (List Int)) (a:Int) {i:Nat} {r:List Int} (hr:l[i]?=some r) (hrl:r.length≤1000000) (T:Nat) (hT:T≤1000000)
  (ho:∀ n:Nat,n+totL (l.drop (i+1))≤T->Ev (fun k=>ligaturelaw29_count.l0 k l a (n:Int) ((i+1:Nat):Int)) ((n+cntL (l.drop (i+1)) a:Nat):Int)) (hl:l.length≤1000000) :
  ∀ (d j n:Nat),r.length-j=d->j≤r.length->n+(r.length-j)+totL (l.drop (i+1))≤T->Ev (fun k=>ligaturelaw29_count.l1 k l a (n:Int) (i:Int) (j:Int)) ((n+((r.drop j).count a+cntL (l.drop (i+1)) a):Nat):Int)
 | 0,j,n,hd,hj,hb=>by
  obtain rfl:j=r.length:=Z0
  have hi:=(List.getElem?_eq_some_iff.1 hr).1
  rw[List.drop_length,List.count_nil,Nat.zero_add]
  refine Ev.step (fun k=>?_) (ho n (Z0))
  simp only[ligaturelaw29_count.l1]
  rw[if_pos (Z0),if_pos (Z0),rdL hr,if_neg (Z0),w64 (Z0) (Z0)]
  rfl
 | d+1,j,n,hd,hj,hb=>by
  obtain⟨x,hx⟩:∃ x,r[j]?=some x:=⟨_,List.getElem?_eq_getElem (Z0)⟩
  have hi:=(List.getElem?_eq_some_iff.1 hr).1
  have hjl:=(List.getElem?_eq_some_iff.1 hx).1
  rw[drop_at hx,List.count_cons]
  by_cases e:x=a
  ·have ih:=cnt_in l a hr hrl T hT ho hl d (j+1) (n+1) (Z0) (Z0) (Z0)
   rw[show ((x==a)=true) from by simpa using e,if_pos rfl]
   rw[show n+((r.drop (j+1)).count a+1+cntL (l.drop (i+1)) a)=n+1+((r.drop (j+1)).count a+cntL (l.drop (i+1)) a) from Z0]
   refine Ev.step (fun k=>?_) ih
   simp only[ligaturelaw29_count.l1]
   rw[if_pos (Z0),if_pos (Z0),rdL hr,if_pos (Z0),if_pos (Z0),rdE hx,if_pos e,w64 (Z0) (Z0),w64 (Z0) (Z0)]
   rfl
  ·have ih:=cnt_in l a hr hrl T hT ho hl d (j+1) n (Z0) (Z0) (Z0)
   rw[if_neg (by simpa using e),Nat.add_zero]
   refine Ev.step (fun k=>?_) ih
   simp only[ligaturelaw29_count.l1]
   rw[if_pos (Z0),if_pos (Z0),rdL hr,if_pos (Z0),if_pos (Z0),rdE hx,if_neg e,w64 (Z0) (Z0)]
   rfl
theorem cnt_out (l:List (List Int)) (a:Int) (T:Nat) (hT:T≤1000000) (hl:l.length≤1000000):∀ (d i n:Nat),l.length-i=d->i≤l.length->n+totL (l.drop i)≤T->Ev (fun k=>ligaturelaw29_count.l0 k l a (n:Int) (i:Int)) ((n+cntL (l.drop i) a:Nat):Int)
 | 0,i,n,hd,hi,hb=>by
  obtain rfl:i=l.length:=Z0
  rw[List.drop_length]
  refine Ev.now (fun k=>?_)
  simp only[ligaturelaw29_count.l0]
  rw[if_neg (Z0)]
  rfl
 | d+1,i,n,hd,hi,hb=>by
  obtain⟨r,hr⟩:∃ r,l[i]?=some r:=⟨_,List.getElem?_eq_getElem (Z0)⟩
  rw[drop_at hr,totL_cons]at hb
  have h:=cnt_in l a hr (Z0) T hT (fun n' hb'=>cnt_out l a T hT hl d (i+1) n' (Z0) (Z0) hb') hl r.length 0 n (Z0) (Z0) (Z0)
  rw[List.drop_zero]at h
  rw[drop_at hr,cntL_cons]
  refine Ev.step (fun k=>?_) h
  simp only[ligaturelaw29_count.l0]
  rw[if_pos (Z0)]
  rfl
theorem count_law {A:Option Addr} {c:Nat} {l:List (List Int)} {w:World} (hr:Kd.C (Kd.slice 3 (Kd.int .i64)) w A l.length l) (hc:l.length≤c) (hT:totL l≤1000000) (hl:l.length≤1000000) (a:Int) :
  Calls Try.prog 12 #[.slice A l.length c,.int .i64 a] w fun e w'=>e=.returned (.int .i64 ((cntL l a:Nat):Int))/\Below w.heap.size w w':=by
 obtain⟨k0,hk⟩:=cnt_out l a (totL l) hT hl l.length 0 0 (Z0) (Z0) (by rw[List.drop_zero];omega)
 have h:=hk k0 (Nat.le_refl _)
 rw[List.drop_zero,Nat.zero_add]at h
 refine(ligaturelaw29_count.calls k0 A c l a _ w hr hc h).mono ?_
 rintro e w' ⟨rfl,hd⟩
 exact⟨rfl,hd.below⟩
theorem twos_cons (x y:Int) (r:List Int):twos (x::y::r)=(x,y)::twos (y::r):=rfl
theorem twos_drop {r:List Int} {j:Nat} {x y:Int} (hx:r[j]?=some x) (hy:r[j+1]?=some y):twos (r.drop j)=(x,y)::twos (r.drop (j+1)):=by
 rw[drop_at hx,drop_at hy,twos_cons]
theorem beh_in (l:List (List Int)) (a b:Int) {i:Nat} {r:List Int} (hr:l[i]?=some r) (hrl:r.length≤1000000) (T:Nat) (hT:T≤1000000)
  (ho:∀ n:Nat,n+totL (l.drop (i+1))≤T->Ev (fun k=>ligaturelaw29_behind.l0 k l a b (n:Int) ((i+1:Nat):Int)) ((n+behL (l.drop (i+1)) a b:Nat):Int)) (hl:l.length≤1000000) :
  ∀ (d j n:Nat),r.length-(j+1)=d->n+(r.length-(j+1))+totL (l.drop (i+1))≤T->Ev (fun k=>ligaturelaw29_behind.l1 k l a b (n:Int) (i:Int) ((j+1:Nat):Int)) ((n+((twos (r.drop j)).count (a,b)+behL (l.drop (i+1)) a b):Nat):Int)
 | 0,j,n,hd,hb=>by
  have hi:=(List.getElem?_eq_some_iff.1 hr).1
  have h0:twos (r.drop j)=[]:=List.eq_nil_of_length_eq_zero (by rw[twos_len,List.length_drop];omega)
  rw[h0,List.count_nil,Nat.zero_add]
  refine Ev.step (fun k=>?_) (ho n (Z0))
  simp only[ligaturelaw29_behind.l1]
  rw[if_pos (Z0),if_pos (Z0),rdL hr,if_neg (Z0),w64 (Z0) (Z0)]
  rfl
 | d+1,j,n,hd,hb=>by
  obtain⟨x,hx⟩:∃ x,r[j]?=some x:=⟨_,List.getElem?_eq_getElem (Z0)⟩
  obtain⟨y,hy⟩:∃ y,r[j+1]?=some y:=⟨_,List.getElem?_eq_getElem (Z0)⟩
  have hi:=(List.getElem?_eq_some_iff.1 hr).1
  have hjl:=(List.getElem?_eq_some_iff.1 hy).1
  have ew:wrap64 (((j+1:Nat):Int)-1)=(j:Int):=(w64 (Z0) (Z0)).trans (Z0)
  have EW:=As.mk ew
  clear ew
  rw[twos_drop hx hy,List.count_cons]
  by_cases e1:x=a
  ·by_cases e2:y=b
   ·have ih:=beh_in l a b hr hrl T hT ho hl d (j+1) (n+1) (Z0) (Z0)
    rw[if_pos (show ((x,y)==(a,b))=true by simp[e1,e2])]
    rw[show n+((twos (r.drop (j+1))).count (a,b)+1+behL (l.drop (i+1)) a b)=n+1+((twos (r.drop (j+1))).count (a,b)+behL (l.drop (i+1)) a b) from Z0]
    refine Ev.step (fun k=>?_) ih
    simp only[ligaturelaw29_behind.l1]
    rw[if_pos (Z0),if_pos (Z0),rdL hr,if_pos (Z0),EW.out,if_pos (Z0),if_pos (Z0),rdE hx,if_pos e1,if_pos (Z0),rdE hy,if_pos e2,w64 (Z0) (Z0),w64 (Z0) (Z0)]
    rfl
   ·have ih:=beh_in l a b hr hrl T hT ho hl d (j+1) n (Z0) (Z0)
    rw[if_neg (show ¬ ((x,y)==(a,b))=true by simp[e1,e2]),Nat.add_zero]
    refine Ev.step (fun k=>?_) ih
    simp only[ligaturelaw29_behind.l1]
    rw[if_pos (Z0),if_pos (Z0),rdL hr,if_pos (Z0),EW.out,if_pos (Z0),if_pos (Z0),rdE hx,if_pos e1,if_pos (Z0),rdE hy,if_neg e2,w64 (Z0) (Z0)]
    rfl
  ·have ih:=beh_in l a b hr hrl T hT ho hl d (j+1) n (Z0) (Z0)
   rw[if_neg (show ¬ ((x,y)==(a,b))=true by simp[e1]),Nat.add_zero]
   refine Ev.step (fun k=>?_) ih
   simp only[ligaturelaw29_behind.l1]
   rw[if_pos (Z0),if_pos (Z0),rdL hr,if_pos (Z0),EW.out,if_pos (Z0),if_pos (Z0),rdE hx,if_neg e1,w64 (Z0) (Z0)]
   rfl
theorem beh_out (l:List (List Int)) (a b:Int) (T:Nat) (hT:T≤1000000) (hl:l.length≤1000000):∀ (d i n:Nat),l.length-i=d->i≤l.length->n+totL (l.drop i)≤T->Ev (fun k=>ligaturelaw29_behind.l0 k l a b (n:Int) (i:Int)) ((n+behL (l.drop i) a b:Nat):Int)
 | 0,i,n,hd,hi,hb=>by
  obtain rfl:i=l.length:=Z0
  rw[List.drop_length]
  refine Ev.now (fun k=>?_)
  simp only[ligaturelaw29_behind.l0]
  rw[if_neg (Z0)]
  rfl
 | d+1,i,n,hd,hi,hb=>by
  obtain⟨r,hr⟩:∃ r,l[i]?=some r:=⟨_,List.getElem?_eq_getElem (Z0)⟩
  rw[drop_at hr,totL_cons]at hb
  have h:=beh_in l a b hr (Z0) T hT (fun n' hb'=>beh_out l a b T hT hl d (i+1) n' (Z0) (Z0) hb') hl (r.length-1) 0 n (Z0) (Z0)
  rw[List.drop_zero]at h
  rw[drop_at hr,behL_cons]
  refine Ev.step (fun k=>?_) h
  simp only[ligaturelaw29_behind.l0]
  rw[if_pos (Z0)]
  rfl
theorem behind_law {A:Option Addr} {c:Nat} {l:List (List Int)} {w:World} (hr:Kd.C (Kd.slice 3 (Kd.int .i64)) w A l.length l) (hc:l.length≤c) (hT:totL l≤1000000) (hl:l.length≤1000000) (a b:Int) :
  Calls Try.prog 13 #[.slice A l.length c,.int .i64 a,.int .i64 b] w fun e w'=>e=.returned (.int .i64 ((behL l a b:Nat):Int))/\Below w.heap.size w w':=by
 obtain⟨k0,hk⟩:=beh_out l a b (totL l) hT hl l.length 0 0 (Z0) (Z0) (by rw[List.drop_zero];omega)
 have h:=hk k0 (Nat.le_refl _)
 rw[List.drop_zero,Nat.zero_add]at h
 refine(ligaturelaw29_behind.calls k0 A c l a b _ w hr hc h).mono ?_
 rintro e w' ⟨rfl,hd⟩
 exact⟨rfl,hd.below⟩
def greatB (l:List (List Int)):Bool:=l.any (fun r=>decide (30<r.length)) || decide (12<l.length)
theorem gr_out (l:List (List Int)) (hl:l.length≤9223372036854775807):∀ (d i:Nat),l.length-i=d->i≤l.length->Ev (fun k=>ligaturelaw29_great.l0 k l (i:Int)) ((l.drop i).any (fun r=>decide (30<r.length)) || decide (12<l.length))
 | 0,i,hd,hi=>by
  obtain rfl:i=l.length:=Z0
  rw[List.drop_length]
  refine Ev.now (fun k=>?_)
  simp only[ligaturelaw29_great.l0]
  rw[if_neg (Z0)]
  congr 1
  rw[Bool.eq_iff_iff]
  simp
  omega
 | d+1,i,hd,hi=>by
  obtain⟨r,hr⟩:∃ r,l[i]?=some r:=⟨_,List.getElem?_eq_getElem (Z0)⟩
  have hi':=(List.getElem?_eq_some_iff.1 hr).1
  rw[drop_at hr,List.any_cons]
  by_cases h:30<r.length
  ·refine Ev.now (fun k=>?_)
   simp only[ligaturelaw29_great.l0]
   rw[if_pos (Z0),if_pos (Z0),rdL hr,if_pos (Z0)]
   simp[h]
  ·rw[show decide (30<r.length)=false by simpa using h,Bool.false_or]
   refine Ev.step (fun k=>?_) (gr_out l hl d (i+1) (Z0) (Z0))
   simp only[ligaturelaw29_great.l0]
   rw[if_pos (Z0),if_pos (Z0),rdL hr,if_neg (Z0),w64 (Z0) (Z0)]
   rfl
theorem great_law {A:Option Addr} {c:Nat} {l:List (List Int)} {w:World} (hr:Kd.C (Kd.slice 3 (Kd.int .i64)) w A l.length l) (hc:l.length≤c) (hl:l.length≤9223372036854775807) :
  Calls Try.prog 7 #[.slice A l.length c] w fun e w'=>e=.returned (.bool (greatB l))/\Below w.heap.size w w':=by
 obtain⟨k0,hk⟩:=gr_out l hl l.length 0 (Z0) (Z0)
 have h:=hk k0 (Nat.le_refl _)
 rw[List.drop_zero]at h
 refine(ligaturelaw29_great.calls k0 A c l _ w hr hc h).mono ?_
 rintro e w' ⟨rfl,hd⟩
 exact⟨rfl,hd.below⟩
theorem great_no {l:List (List Int)} (h:greatB l=false):l.length≤12/\∀ r∈l,r.length≤30:=by
 unfold greatB at h
 rw[Bool.or_eq_false_iff]at h
 obtain⟨h1,h2⟩:=h
 refine⟨by simpa using h2,fun r hr=>?_⟩
 have:=List.any_eq_false.1 h1 r hr
 simpa using this
theorem tot_le:∀ {l:List (List Int)} {m:Nat},(∀ r∈l,r.length≤m)->totL l≤m * l.length
 | [],m,_=>by simp[totL]
 | r::l,m,h=>by
  have h1:=h r (by simp)
  have h2:=tot_le (l:=l) (m:=m) (fun q hq=>h q (by simp[hq]))
  rw[totL_cons,List.length_cons,Nat.mul_succ]
  omega
def ofI (l:List (List Int)):List (Int × Int):=l.foldl addI []
def ofP (l:List (List Int)):List ((Int × Int) × Int):=l.foldl addP []
def sidL (l:List (List Int)):Nat:=(l.map (fun r=>r.length-1)).sum
theorem ofI_snoc (l:List (List Int)) (r:List Int):ofI (l++[r])=addI (ofI l) r:=by unfold ofI;rw[List.foldl_append];rfl
theorem ofP_snoc (l:List (List Int)) (r:List Int):ofP (l++[r])=addP (ofP l) r:=by unfold ofP;rw[List.foldl_append];rfl
theorem cntL_snoc (l:List (List Int)) (r:List Int) (a:Int):cntL (l++[r]) a=cntL l a+r.count a:=by simp[cntL]
theorem behL_snoc (l:List (List Int)) (r:List Int) (a b:Int):behL (l++[r]) a b=behL l a b+(twos r).count (a,b):=by simp[behL]
theorem totL_snoc (l:List (List Int)) (r:List Int):totL (l++[r])=totL l+r.length:=by simp[totL]
theorem sidL_snoc (l:List (List Int)) (r:List Int):sidL (l++[r])=sidL l+(r.length-1):=by simp[sidL]
theorem take_snoc {α:Type} {l:List α} {i:Nat} {r:α} (h:l[i]?=some r):l.take (i+1)=l.take i++[r]:=by rw[List.take_add_one,h];rfl
theorem snoc_ind {α:Type} {p:List α->Prop} (h0:p []) (h1:∀ l r,p l->p (l++[r])):∀ l,p l:=fun l=>by
 have:∀ n,n≤l.length->p (l.take n):=by
  intro n
  induction n with
  | zero=>intro _;rw[List.take_zero];exact h0
  | succ n ih =>
   intro hn
   rw[take_snoc (List.getElem?_eq_getElem (Z0))]
   exact h1 _ _ (ih (Z0))
 have h:=this l.length (Nat.le_refl _)
 rwa [List.take_length]at h
theorem getN_ofI (l:List (List Int)) (a:Int):getN (ofI l) a=((cntL l a:Nat):Int) :=
 snoc_ind (p:=fun l=>getN (ofI l) a=((cntL l a:Nat):Int)) rfl (fun l r ih=>by rw[ofI_snoc,getN_addI,ih,cntL_snoc];omega) l
theorem getN_ofP (l:List (List Int)) (a b:Int):getN (ofP l) (a,b)=((behL l a b:Nat):Int) :=
 snoc_ind (p:=fun l=>getN (ofP l) (a,b)=((behL l a b:Nat):Int)) rfl (fun l r ih=>by rw[ofP_snoc];unfold addP;rw[getN_addT,ih,behL_snoc];omega) l
theorem fine_ofI (l:List (List Int)):Fine (ofI l) ((totL l:Nat):Int) :=
 snoc_ind (p:=fun l=>Fine (ofI l) ((totL l:Nat):Int)) Fine.nil (fun l r ih=>by rw[ofI_snoc,totL_snoc];have:=fine_addI r ih;rw[show ((totL l+r.length:Nat):Int)=((totL l:Nat):Int)+(r.length:Int) from Z0];exact this) l
theorem fine_ofP (l:List (List Int)):Fine (ofP l) ((sidL l:Nat):Int) :=
 snoc_ind (p:=fun l=>Fine (ofP l) ((sidL l:Nat):Int)) Fine.nil (fun l r ih=>by rw[ofP_snoc,sidL_snoc];have:=fine_addP r ih;rw[show ((sidL l+(r.length-1):Nat):Int)=((sidL l:Nat):Int)+((r.length-1:Nat):Int) from Z0];exact this) l
theorem sid_tot (l:List (List Int)):sidL l≤totL l :=
 snoc_ind (p:=fun l=>sidL l≤totL l) (Nat.le_refl _) (fun l r ih=>by rw[sidL_snoc,totL_snoc];omega) l
theorem tot_take (l:List (List Int)) (i:Nat):totL (l.take i)≤totL l:=by
 conv=>rhs;rw[←List.take_append_drop i l]
 unfold totL
 rw[List.map_append,List.sum_append]
 omega
end Go.Proofs.Ythcpdiknejblnaa.Ta
