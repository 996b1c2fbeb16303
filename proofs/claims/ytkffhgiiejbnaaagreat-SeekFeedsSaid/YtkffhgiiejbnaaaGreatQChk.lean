import Derived.Test.YtkffhgiiejbnaaaGreatQRendRef
import Derived.Test.YtkffhgiiejbnaaaGreatQ01
import Derived.Test.YtkffhgiiejbnaaaGreatQ02
set_option maxHeartbeats 400000
set_option linter.unusedVariables false
set_option linter.unusedSimpArgs false
namespace Go.Proofs.YtkffhgiiejbnaaaGreat.Mk
open Go.RowKit YtkffhgiiejbnaaaGreatW.PrintWords YtkffhgiiejbnaaaGreatW.PrintLast YtkffhgiiejbnaaaGreatW.PrintMore Rf Aid Mp
def twice (S:List Sp) (x:Sp):Bool:=S.any (fun y=>decide (y.f0=x.f0) || decide (y.f1=x.f1))
theorem twice_is (S:List Sp) (x:Sp):((idxI S x.f0).isSome || (idx S x.f1).isSome)=twice S x:=by
 unfold idxI idx twice
 rw[List.findIdx?_isSome,List.findIdx?_isSome]
 induction S with
 | nil=>rfl
 | cons a S ih =>
  simp only[List.any_cons]
  rw[←ih]
  cases decide (a.f0=x.f0) <;> cases decide (a.f1=x.f1) <;> simp
theorem tl_inj {s t:ByteArray}:s.toList=t.toList↔s=t:=by
 constructor
 ·intro h
  rw[ByteArray.toList_eq,ByteArray.toList_eq]at h
  cases s;cases t
  congr 1
  exact Array.toList_inj.1 h
 ·rintro rfl;rfl
theorem check_inner (l:List Sp) (i:Nat) (hi:i<l.length) (hl:l.length≤1000) (R:Option (Int × Int)) (B:Nat) (hB:∀ k',B≤k'->ligatureref09_Check.l0 k' l ((i+1:Nat):Int)=R) :
  ∀ (e k j:Nat),j≤i->i-j=e->e+1+B≤k->ligatureref09_Check.l1 k l i j=if twice ((l.take i).drop j) l[i]=true then some ((i:Int),10) else R
 | 0,k,j,h0,h1,h2=>by
  obtain⟨k,rfl⟩:∃ m,k=m+1:=⟨k-1,Z1⟩
  have hw:wrap64 ((i:Int)+1)=((i+1:Nat):Int):=(w64 (Z1) (Z1)).trans (Z1)
  simp only[ligatureref09_Check.l1]
  rw[if_neg (Z1),hw,hB k (Z1),List.drop_eq_nil_of_le (Z6)]
  rfl
 | e+1,k,j,h0,h1,h2=>by
  obtain⟨k,rfl⟩:∃ m,k=m+1:=⟨k-1,Z1⟩
  have hj:j<l.length:=Z1
  have hw:wrap64 ((j:Int)+1)=((j+1:Nat):Int):=(w64 (Z1) (Z1)).trans (Z1)
  have hjt:j<(l.take i).length:=Z6
  simp only[ligatureref09_Check.l1]
  rw[if_pos (Z1),if_pos (Z1),if_pos (Z1),if_pos (Z1),if_pos (Z1),rd_at hj,rd_at hi,List.drop_eq_getElem_cons hjt,List.getElem_take]
  by_cases e0:(l[j]).f0=(l[i]).f0
  ·rw[if_pos e0,if_pos (by unfold twice;simp[e0])]
  ·rw[if_neg e0]
   by_cases e1:(l[j]).f1=(l[i]).f1
   ·rw[if_pos (tl_inj.2 e1),if_pos (by unfold twice;simp[e1])]
   ·rw[if_neg (fun h=>e1 (tl_inj.1 h)),hw,check_inner l i hi hl R B hB e k (j+1) (Z1) (Z1) (Z1)]
    have:twice (l[j]::(l.take i).drop (j+1)) l[i]=twice ((l.take i).drop (j+1)) l[i]:=by
     unfold twice
     rw[List.any_cons,decide_eq_false e0,decide_eq_false e1]
     rfl
    rw[this]
theorem check_run (l:List Sp) (hl:l.length≤1000):∀ (d k i:Nat),i≤l.length->i≤32->l.length-i=d->40 * d+1≤k->ligatureref09_Check.l0 k l i=some (((newF (l.take i) (l.drop i) i).1:Int),(newF (l.take i) (l.drop i) i).2)
 | 0,k,i,h0,h1,h2,h3=>by
  obtain⟨k,rfl⟩:∃ m,k=m+1:=⟨k-1,Z1⟩
  simp only[ligatureref09_Check.l0]
  rw[if_neg (Z1),List.drop_eq_nil_of_le (Z1)]
  obtain rfl:i=l.length:=Z1
  rfl
 | d+1,k,i,h0,h1,h2,h3=>by
  obtain⟨k,rfl⟩:∃ m,k=m+2:=⟨k-2,Z1⟩
  have hlt:i<l.length:=Z1
  simp only[ligatureref09_Check.l0]
  rw[if_pos (Z1),if_pos (Z1),rd_at hlt,List.drop_eq_getElem_cons hlt]
  have ht:l.take i++[l[i]]=l.take (i+1):=(List.take_succ_eq_append_getElem hlt).symm
  have hx:goodB l[i]=decide (0≤(l[i]).f0/\(l[i]).f0≤1073741824/\1≤(l[i]).f1.size/\(l[i]).f1.size≤64):=rfl
  unfold newF
  rw[ht]
  have hin:=fun R B hB=>check_inner l i hlt hl R B hB i k 0 (Z1) (Z1)
  rw[List.drop_zero]at hin
  generalize l[i]=x at *
  have hj:(if x.f0<0 then ligatureref09_Check.j1 (k+1) l (i:Int) true else if x.f0>1073741824 then ligatureref09_Check.j1 (k+1) l (i:Int) true else if (x.f1.size:Int)<1 then ligatureref09_Check.j1 (k+1) l (i:Int) true else ligatureref09_Check.j1 (k+1) l (i:Int) (decide ((x.f1.size:Int)>64)))=ligatureref09_Check.j1 (k+1) l (i:Int) (!goodB x):=by
   rw[hx]
   by_cases a:x.f0<0
   ·rw[if_pos a,decide_eq_false (Z1)];rfl
   ·rw[if_neg a]
    by_cases b:x.f0>1073741824
    ·rw[if_pos b,decide_eq_false (Z1)];rfl
    ·rw[if_neg b]
     by_cases e:(x.f1.size:Int)<1
     ·rw[if_pos e,decide_eq_false (Z1)];rfl
     ·rw[if_neg e]
      congr 1
      by_cases f:(x.f1.size:Int)>64
      ·rw[decide_eq_true f,decide_eq_false (Z1)];rfl
      ·rw[decide_eq_false f,decide_eq_true (Z1)];rfl
  rw[hj]
  have hlen:(l.take i).length=i:=Z6
  simp only[ligatureref09_Check.j1]
  cases hg:goodB x with
  | false =>
   have he:addE (l.take i) x=1:=by unfold addE;rw[hg,if_neg (by simp)]
   rw[he]
   rfl
  | true =>
   rw[if_neg (by simp)]
   by_cases h32:i<32
   ·rw[if_neg (Z1)]
    have hn:=hin _ (40 * d+1) (fun k' hk'=>check_run l hl d k' (i+1) (Z1) (Z1) (Z1) hk') (Z1)
    rw[show ((0:Nat):Int)=0 from rfl]at hn
    rw[hn]
    have he:addE (l.take i) x=if twice (l.take i) x=true then 10 else 0:=by
     unfold addE;rw[hg,if_pos rfl,hlen,if_pos h32,twice_is]
    rw[he]
    cases twice (l.take i) x <;> rfl
   ·have he:addE (l.take i) x=3:=by unfold addE;rw[hg,if_pos rfl,hlen,if_neg h32]
    rw[if_pos (Z1),he]
    rfl
theorem check_some (l:List Sp) (hl:l.length≤1000):ligatureref09_Check.f (40 * l.length+1) l=some (((newP l).1:Int),(newP l).2):=by
 unfold ligatureref09_Check.f newP
 have:=check_run l hl l.length (40 * l.length+1) 0 (Z1) (Z1) (Z1) (Z1)
 simpa using this
theorem check_any' (A:Option Addr) (c:Nat) (l:List Sp) (w:World) (hr:Kd.C kSp w A l.length l) (hc:l.length≤c) (hl:l.length≤1000) :
  Calls Tryz.prog 89 #[.slice A l.length c] w fun e w'=>e=.returned (.tuple #[.int .i64 (newP l).1,.int .i64 (newP l).2])/\Drawn0 w w' :=
 ligatureref09_Check.calls _ A c l _ _ w hr hc (check_some l hl)
end Go.Proofs.YtkffhgiiejbnaaaGreat.Mk
