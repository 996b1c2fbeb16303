import Derived.Test.YthcpdiknejblnaaQdTaP
import Derived.Test.YthcpdiknejblnaaQdTaU
import Derived.Test.YthcpdiknejblnaaQd01
set_option linter.unusedVariables false
set_option linter.unusedSimpArgs false
namespace Go.Proofs.Ythcpdiknejblnaa.Ta
open Go Go.RowKit YthcpdiknejblnaaW.PrintWords YthcpdiknejblnaaW.PrintLast YthcpdiknejblnaaW.PrintMore Rf Aid Hp
def cntL (l:List (List Int)) (a:Int):Nat:=(l.map (fun r=>r.count a)).sum
def behL (l:List (List Int)) (a b:Int):Nat:=(l.map (fun r=>(twos r).count (a,b))).sum
def totL (l:List (List Int)):Nat:=(l.map List.length).sum
theorem totL_cons (r:List Int) (l:List (List Int)):totL (r::l)=r.length+totL l:=by simp[totL]
theorem rdL {l:List (List Int)} {i:Nat} {r:List Int} (h:l[i]?=some r):rd_L1 l (i:Int)=r:=by
 unfold rd_L1
 rw[Int.toNat_natCast,List.getD_eq_getElem?_getD,h]
 rfl
theorem drop_at {α:Type} {l:List α} {i:Nat} {r:α} (h:l[i]?=some r):l.drop i=r::l.drop (i+1):=by
 obtain⟨hl,e⟩:=List.getElem?_eq_some_iff.1 h
 rw[List.drop_eq_getElem_cons hl,e]
def Ev {α:Type} (g:Nat->Option α) (r:α):Prop:=∃ k0,∀ k,k0≤k->g k=some r
theorem Ev.step {α:Type} {g g':Nat->Option α} {r:α} (h:∀ k,g (k+1)=g' k) (he:Ev g' r):Ev g r:=by
 obtain⟨k0,hk⟩:=he
 refine⟨k0+1,fun k hle=>?_⟩
 obtain⟨m,rfl⟩:∃ m,k=m+1:=⟨k-1,Z0⟩
 rw[h]
 exact hk m (Z0)
theorem Ev.now {α:Type} {g:Nat->Option α} {r:α} (h:∀ k,g (k+1)=some r):Ev g r:=⟨1,fun k hle=>by
 obtain⟨m,rfl⟩:∃ m,k=m+1:=⟨k-1,Z0⟩
 exact h m⟩
def greatB (l:List (List Int)):Bool:=l.any (fun r=>decide (30<r.length)) || decide (12<l.length)
theorem gr_out (l:List (List Int)) (hl:l.length≤9223372036854775807):∀ (d i:Nat),l.length-i=d->i≤l.length->Ev (fun k=>ligaturelaw29_great.l0 k l (i:Int)) ((l.drop i).any (fun r=>decide (30<r.length)) || decide (12<l.length))
 | 0,i,hd,hi=>by
  obtain rfl:i=l.length:=Z0
  rw[List.drop_length]
  refine Ev.now (fun k=>?_)
  simp only[ligaturelaw29_great.l0]
  rw[if_neg (Z0)]
  congr 1
  rw[Bool.eq_iff_iff]
  simp
  omega
 | d+1,i,hd,hi=>by
  obtain⟨r,hr⟩:∃ r,l[i]?=some r:=⟨_,List.getElem?_eq_getElem (Z0)⟩
  have hi':=(List.getElem?_eq_some_iff.1 hr).1
  rw[drop_at hr,List.any_cons]
  by_cases h:30<r.length
  ·refine Ev.now (fun k=>?_)
   simp only[ligaturelaw29_great.l0]
   rw[if_pos (Z0),if_pos (Z0),rdL hr,if_pos (Z0)]
   simp[h]
  ·rw[show decide (30<r.length)=false by simpa using h,Bool.false_or]
   refine Ev.step (fun k=>?_) (gr_out l hl d (i+1) (Z0) (Z0))
   simp only[ligaturelaw29_great.l0]
   rw[if_pos (Z0),if_pos (Z0),rdL hr,if_neg (Z0),w64 (Z0) (Z0)]
   rfl
theorem great_law {A:Option Addr} {c:Nat} {l:List (List Int)} {w:World} (hr:Kd.C (Kd.slice 3 (Kd.int .i64)) w A l.length l) (hc:l.length≤c) (hl:l.length≤9223372036854775807) :
  Calls Try.prog 7 #[.slice A l.length c] w fun e w'=>e=.returned (.bool (greatB l))/\Below w.heap.size w w':=by
 obtain⟨k0,hk⟩:=gr_out l hl l.length 0 (Z0) (Z0)
 have h:=hk k0 (Nat.le_refl _)
 rw[List.drop_zero]at h
 refine(ligaturelaw29_great.calls k0 A c l _ w hr hc h).mono ?_
 rintro e w' ⟨rfl,hd⟩
 exact⟨rfl,hd.below⟩
theorem great_no {l:List (List Int)} (h:greatB l=false):l.length≤12/\∀ r∈l,r.length≤30:=by
 unfold greatB at h
 rw[Bool.or_eq_false_iff]at h
 obtain⟨h1,h2⟩:=h
 refine⟨by simpa using h2,fun r hr=>?_⟩
 have:=List.any_eq_false.1 h1 r hr
 simpa using this
theorem tot_le:∀ {l:List (List Int)} {m:Nat},(∀ r∈l,r.length≤m)->totL l≤m * l.length
 | [],m,_=>by simp[totL]
 | r::l,m,h=>by
  have h1:=h r (by simp)
  have h2:=tot_le (l:=l) (m:=m) (fun q hq=>h q (by simp[hq]))
  rw[totL_cons,List.length_cons,Nat.mul_succ]
  omega
def ofI (l:List (List Int)):List (Int × Int):=l.foldl addI []
def ofP (l:List (List Int)):List ((Int × Int) × Int):=l.foldl addP []
def sidL (l:List (List Int)):Nat:=(l.map (fun r=>r.length-1)).sum
theorem ofI_snoc (l:List (List Int)) (r:List Int):ofI (l++[r])=addI (ofI l) r:=by unfold ofI;rw[List.foldl_append];rfl
theorem ofP_snoc (l:List (List Int)) (r:List Int):ofP (l++[r])=addP (ofP l) r:=by unfold ofP;rw[List.foldl_append];rfl
theorem cntL_snoc (l:List (List Int)) (r:List Int) (a:Int):cntL (l++[r]) a=cntL l a+r.count a:=by simp[cntL]
theorem behL_snoc (l:List (List Int)) (r:List Int) (a b:Int):behL (l++[r]) a b=behL l a b+(twos r).count (a,b):=by simp[behL]
theorem totL_snoc (l:List (List Int)) (r:List Int):totL (l++[r])=totL l+r.length:=by simp[totL]
theorem sidL_snoc (l:List (List Int)) (r:List Int):sidL (l++[r])=sidL l+(r.length-1):=by simp[sidL]
theorem take_snoc {α:Type} {l:List α} {i:Nat} {r:α} (h:l[i]?=some r):l.take (i+1)=l.take i++[r]:=by rw[List.take_add_one,h];rfl
theorem snoc_ind {α:Type} {p:List α->Prop} (h0:p []) (h1:∀ l r,p l->p (l++[r])):∀ l,p l:=fun l=>by
 have:∀ n,n≤l.length->p (l.take n):=by
  intro n
  induction n with
  | zero=>intro _;rw[List.take_zero];exact h0
  | succ n ih =>
   intro hn
   rw[take_snoc (List.getElem?_eq_getElem (Z0))]
   exact h1 _ _ (ih (Z0))
 have h:=this l.length (Nat.le_refl _)
 rwa [List.take_length]at h
theorem getN_ofI (l:List (List Int)) (a:Int):getN (ofI l) a=((cntL l a:Nat):Int) :=
 snoc_ind (p:=fun l=>getN (ofI l) a=((cntL l a:Nat):Int)) rfl (fun l r ih=>by rw[ofI_snoc,getN_addI,ih,cntL_snoc];omega) l
theorem getN_ofP (l:List (List Int)) (a b:Int):getN (ofP l) (a,b)=((behL l a b:Nat):Int) :=
 snoc_ind (p:=fun l=>getN (ofP l) (a,b)=((behL l a b:Nat):Int)) rfl (fun l r ih=>by rw[ofP_snoc];unfold addP;rw[getN_addT,ih,behL_snoc];omega) l
theorem fine_ofI (l:List (List Int)):Fine (ofI l) ((totL l:Nat):Int) :=
 snoc_ind (p:=fun l=>Fine (ofI l) ((totL l:Nat):Int)) Fine.nil (fun l r ih=>by rw[ofI_snoc,totL_snoc];have:=fine_addI r ih;rw[show ((totL l+r.length:Nat):Int)=((totL l:Nat):Int)+(r.length:Int) from Z0];exact this) l
theorem fine_ofP (l:List (List Int)):Fine (ofP l) ((sidL l:Nat):Int) :=
 snoc_ind (p:=fun l=>Fine (ofP l) ((sidL l:Nat):Int)) Fine.nil (fun l r ih=>by rw[ofP_snoc,sidL_snoc];have:=fine_addP r ih;rw[show ((sidL l+(r.length-1):Nat):Int)=((sidL l:Nat):Int)+((r.length-1:Nat):Int) from Z0];exact this) l
theorem sid_tot (l:List (List Int)):sidL l≤totL l :=
 snoc_ind (p:=fun l=>sidL l≤totL l) (Nat.le_refl _) (fun l r ih=>by rw[sidL_snoc,totL_snoc];omega) l
theorem tot_take (l:List (List Int)) (i:Nat):totL (l.take i)≤totL l:=by
 conv=>rhs;rw[←List.take_append_drop i l]
 unfold totL
 rw[List.map_append,List.sum_append]
 omega
end Go.Proofs.Ythcpdiknejblnaa.Ta
