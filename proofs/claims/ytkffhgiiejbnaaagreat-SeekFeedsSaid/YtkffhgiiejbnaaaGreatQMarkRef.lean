import Derived.Test.YtkffhgiiejbnaaaGreatQSetF
import Derived.Test.YtkffhgiiejbnaaaGreatQ01
set_option linter.unusedVariables false
set_option linter.unusedSimpArgs false
namespace Go.Proofs.YtkffhgiiejbnaaaGreat.Mk
open Go.RowKit YtkffhgiiejbnaaaGreatW.PrintWords YtkffhgiiejbnaaaGreatW.PrintLast YtkffhgiiejbnaaaGreatW.PrintMore Rf Aid Mp
theorem w64 {i:Int} (h0:-9223372036854775808≤i) (h:i≤9223372036854775807):wrap64 i=i:=Z62
theorem rd_at {l:List Sp} {i:Nat} (h:i<l.length):rd_T93 l (i:Int)=l[i]:=by
 unfold rd_T93;rw[Int.toNat_natCast,List.getD_eq_getElem?_getD,List.getElem?_eq_getElem h];rfl
def greatP (l:List Sp):Bool:=l.any (fun x=>decide (100<x.f1.size)) || decide (40<l.length)
theorem great_run (l:List Sp) (hl:l.length≤9223372036854775807):∀ (d k i:Nat),i≤l.length->l.length-i=d->d<k->ligatureref09_Great.l0 k l i=some ((l.drop i).any (fun x=>decide (100<x.f1.size)) || decide (40<l.length))
 | 0,k,i,h0,h1,h2=>by
  obtain⟨k,rfl⟩:∃ m,k=m+1:=⟨k-1,Z1⟩
  simp only[ligatureref09_Great.l0]
  rw[if_neg (Z1),List.drop_eq_nil_of_le (Z1)]
  simp only[List.any_nil,Bool.false_or]
  congr 1;rw[decide_eq_decide];omega
 | d+1,k,i,h0,h1,h2=>by
  obtain⟨k,rfl⟩:∃ m,k=m+1:=⟨k-1,Z1⟩
  have hlt:i<l.length:=Z1
  simp only[ligatureref09_Great.l0]
  rw[if_pos (Z1),if_pos (Z1),rd_at hlt,List.drop_eq_getElem_cons hlt,List.any_cons]
  by_cases hx:100<(l[i]).f1.size
  ·rw[if_pos (Z1)];simp[hx]
  ·rw[if_neg (Z1),w64 (Z1) (Z1),show ((i:Int)+1)=((i+1:Nat):Int) from Z1,great_run l hl d k (i+1) (Z1) (Z1) (Z1)]
   simp[hx]
theorem great_some (l:List Sp) (hl:l.length≤9223372036854775807):ligatureref09_Great.f (l.length+1) l=some (greatP l):=by
 unfold ligatureref09_Great.f
 exact(great_run l hl l.length (l.length+1) 0 (Z1) (Z1) (Z1)).trans (by rw[List.drop_zero];rfl)
theorem rdI {l:List Int} {i:Nat} (h:i<l.length):rd l (i:Int)=l[i]:=by
 unfold rd;rw[Int.toNat_natCast,List.getD_eq_getElem?_getD,List.getElem?_eq_getElem h];rfl
theorem ints_run (a b:List Int) (hab:a.length=b.length) (hl:a.length≤9223372036854775807):∀ (d k i:Nat),i≤a.length->a.length-i=d->d<k->ligatureref02_Ints.l0 k a b i=some (decide (a.drop i=b.drop i))
 | 0,k,i,h0,h1,h2=>by
  obtain⟨k,rfl⟩:∃ m,k=m+1:=⟨k-1,Z1⟩
  simp only[ligatureref02_Ints.l0]
  rw[if_neg (Z1),List.drop_eq_nil_of_le (Z1),List.drop_eq_nil_of_le (Z1)];simp
 | d+1,k,i,h0,h1,h2=>by
  obtain⟨k,rfl⟩:∃ m,k=m+1:=⟨k-1,Z1⟩
  have hlt:i<a.length:=Z1
  have hlt':i<b.length:=Z1
  simp only[ligatureref02_Ints.l0]
  rw[if_pos (Z1),if_pos (Z1),if_pos (Z1),rdI hlt,rdI hlt',List.drop_eq_getElem_cons hlt,List.drop_eq_getElem_cons hlt']
  by_cases hx:a[i]=b[i]
  ·rw[if_pos hx,w64 (Z1) (Z1),show ((i:Int)+1)=((i+1:Nat):Int) from Z1,ints_run a b hab hl d k (i+1) (Z1) (Z1) (Z1)]
   congr 1;rw[decide_eq_decide,List.cons.injEq];exact⟨fun h=>⟨hx,h⟩,fun h=>h.2⟩
  ·rw[if_neg hx];congr 1;symm;rw[decide_eq_false_iff_not,List.cons.injEq];exact fun h=>hx h.1
theorem ints_some (a b:List Int) (hl:a.length≤9223372036854775807):ligatureref02_Ints.f (a.length+1) a b=some (decide (a=b)):=by
 unfold ligatureref02_Ints.f
 by_cases h:a.length=b.length
 ·rw[if_pos (Z1)]
  exact(ints_run a b h hl a.length (a.length+1) 0 (Z1) (Z1) (Z1)).trans (by rw[List.drop_zero,List.drop_zero])
 ·rw[if_neg (Z1)];congr 1;symm;rw[decide_eq_false_iff_not];intro e;exact h (by rw[e])
def begP (s x:ByteArray):Bool:=decide (x.size≤s.size/\s.extract 0 x.size=x)
structure GoodS (S:List Sp):Prop where
 good:∀ x∈S,0≤x.f0/\x.f0≤1073741824/\1≤x.f1.size/\x.f1.size≤64
 few:S.length≤32
 apartI:(S.map (·.f0)).Nodup
 apartT:(S.map (·.f1)).Nodup
theorem SetAt.goodS {w:World} {p:Nat} {S:List Sp} (h:SetAt w p S):GoodS S:=⟨h.good,h.few,h.apartI,h.apartT⟩
theorem beg_extract {s x:ByteArray} (h:begP s x=true):x.size≤s.size/\s.extract 0 x.size=x:=by unfold begP at h;exact of_decide_eq_true h
theorem idx_of {S:List Sp} (hS:GoodS S) {i:Nat} (hi:i<S.length):idx S (S[i]).f1=some i:=by
 unfold idx
 rw[List.findIdx?_eq_some_iff_getElem]
 refine⟨hi,by simp,fun j hj=>?_⟩
 simp only[decide_eq_true_eq]
 intro e
 have hn:=hS.apartT
 rw[List.nodup_iff_pairwise_ne,List.pairwise_iff_getElem]at hn
 exact hn j i (Z6) (by simpa using hi) hj (by simpa using e)
theorem atN_none {S:List Sp} (hS:GoodS S) {s:ByteArray}:∀ {n:Nat},n≤s.size->atN S s n=none->∀ i (hi:i<S.length),(S[i]).f1.size≤n->begP s (S[i]).f1=false
 | 0,_,_,i,hi,h=>by have:=(hS.good _ (List.getElem_mem hi)).2.2.1;omega
 | n+1,hn,h,i,hi,hle=>by
  rw[atN_succ]at h
  split at h
  ·rename_i h1;rw[h]at h1;simp at h1
  ·rename_i h1
   by_cases e:(S[i]).f1.size≤n
   ·exact atN_none hS (Z1) h i hi e
   ·have hz:(S[i]).f1.size=n+1:=by omega
    cases hb:begP s (S[i]).f1 with
    | false=>rfl
    | true =>
     have:=(beg_extract hb).2
     rw[hz]at this
     rw[this,idx_of hS hi]at h1
     simp at h1
theorem le_most {S:List Sp} {x:Sp} (h:x∈S):x.f1.size≤mostOf S:=by
 unfold mostOf
 have:∀ (S:List Sp) (m:Nat),m≤S.foldl (fun m x=>max m x.f1.size) m/\∀ x∈S,x.f1.size≤S.foldl (fun m x=>max m x.f1.size) m:=by
  intro S
  induction S with
  | nil=>intro m;simp
  | cons y S ih =>
   intro m
   obtain⟨h1,h2⟩:=ih (max m y.f1.size)
   refine⟨by simp only[List.foldl_cons];omega,fun x hx=>?_⟩
   rcases List.mem_cons.1 hx with rfl|hx
   ·simp only[List.foldl_cons];omega
   ·exact h2 x hx
 exact(this S 0).2 x h
theorem beg_first {S:List Sp} {s x:ByteArray} {y:Sp} (hy:y∈S) (h1:1≤y.f1.size) (hb:begP s y.f1=true):firstOf S (bt s 0).toNat=true:=by
 obtain⟨h2,h3⟩:=beg_extract hb
 unfold firstOf
 rw[List.any_eq_true]
 refine⟨y,hy,?_⟩
 have e:bt y.f1 0=bt s 0:=by
  rw[bt0 _ (Z1),bt0 _ (Z1)]
  have hq:y.f1[0]=(s.extract 0 y.f1.size)[0]'(Z91):=by congr 1;exact h3.symm
  rw[hq,ByteArray.getElem_extract]
 have:=bt_range s 0
 rw[e];simp;omega
theorem atP_none {S:List Sp} (hS:GoodS S) {s:ByteArray} (h:atP S s=none):∀ i (hi:i<S.length),begP s (S[i]).f1=false:=by
 intro i hi
 cases hb:begP s (S[i]).f1 with
 | false=>rfl
 | true =>
  have hg:=hS.good _ (List.getElem_mem hi)
  have hsz:=(beg_extract hb).1
  unfold atP at h
  rw[if_pos (Z1),if_pos (beg_first (x:=s) (List.getElem_mem hi) hg.2.2.1 hb)]at h
  have:=atN_none hS (Z1) h i hi (by have:=le_most (List.getElem_mem hi);omega)
  rw[hb]at this;cases this
end Go.Proofs.YtkffhgiiejbnaaaGreat.Mk
