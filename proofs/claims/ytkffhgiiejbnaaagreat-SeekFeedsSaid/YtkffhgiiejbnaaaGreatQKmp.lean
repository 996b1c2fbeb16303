import Derived.Test.YtkffhgiiejbnaaaGreatQAid
set_option linter.unusedVariables false
set_option linter.unusedSimpArgs false
namespace Go.Proofs.YtkffhgiiejbnaaaGreat.Sk
def Ends (p xs:List Int) (k:Nat):Prop:=k≤p.length/\p.take k <:+ xs
instance (p xs:List Int) (k:Nat):Decidable (Ends p xs k):=by unfold Ends;infer_instance
def metN (p xs:List Int):Nat->Nat
 | 0=>0
 | n+1=>if Ends p xs (n+1) then n+1 else metN p xs n
def metF (p xs:List Int):Nat:=metN p xs p.length
theorem Ends.zero (p xs:List Int):Ends p xs 0:=⟨Nat.zero_le _,by rw[List.take_zero];exact List.nil_suffix⟩
theorem metN_le (p xs:List Int):∀ n,metN p xs n≤n
 | 0=>Nat.le_refl _
 | n+1=>by
  unfold metN
  split
  ·exact Nat.le_refl _
  ·exact Nat.le_succ_of_le (metN_le p xs n)
theorem metN_ends (p xs:List Int):∀ n,Ends p xs (metN p xs n)
 | 0=>Ends.zero p xs
 | n+1=>by
  unfold metN
  split
  ·assumption
  ·exact metN_ends p xs n
theorem metN_max {p xs:List Int} {k:Nat} (h:Ends p xs k):∀ n,k≤n->k≤metN p xs n
 | 0,hk=>by omega
 | n+1,hk=>by
  unfold metN
  split
  ·exact hk
  ·rename_i hn
   rcases Nat.lt_or_ge n k with hlt|hge
   ·obtain rfl:k=n+1:=by omega
    exact absurd h hn
   ·exact metN_max h n hge
theorem metF_ends (p xs:List Int):Ends p xs (metF p xs):=metN_ends p xs _
theorem metF_max {p xs:List Int} {k:Nat} (h:Ends p xs k):k≤metF p xs:=metN_max h _ h.1
theorem metF_le (p xs:List Int):metF p xs≤p.length:=metN_le p xs _
theorem metF_eq {p xs:List Int} {k:Nat} (h:Ends p xs k) (hm:∀ j,Ends p xs j->j≤k):metF p xs=k:=Nat.le_antisymm (hm _ (metF_ends p xs)) (metF_max h)
theorem Ends.len {p xs:List Int} {k:Nat} (h:Ends p xs k):k≤xs.length:=by
 have:=h.2.length_le
 rw[List.length_take]at this
 have:=h.1
 omega
theorem ends_snoc {p xs:List Int} {n:Int} {k:Nat}:Ends p (xs++[n]) (k+1)↔Ends p xs k/\p[k]?=some n:=by
 constructor
 ·rintro⟨h1,h2⟩
  have hlt:k<p.length:=by omega
  rw[List.take_add_one,List.getElem?_eq_getElem hlt]at h2
  obtain⟨t,ht⟩:=h2
  rw[show (some p[k]).toList=[p[k]] from rfl,←List.append_assoc]at ht
  obtain⟨e1,e2⟩:=List.append_inj' ht rfl
  exact⟨⟨by omega,⟨t,e1⟩⟩,by rw[List.getElem?_eq_getElem hlt];injection e2 with e2;rw[e2]⟩
 ·rintro⟨⟨h1,t,ht⟩,h3⟩
  obtain⟨hlt,h4⟩:=List.getElem?_eq_some_iff.1 h3
  refine⟨by omega,t,?_⟩
  rw[List.take_add_one,h3,show (some n).toList=[n] from rfl,←List.append_assoc,ht]
def bk (p:List Int) (k:Nat):Nat:=metF p ((p.take k).drop 1)
theorem bk_lt {p:List Int} {k:Nat} (h:0<k) (hk:k≤p.length):bk p k<k:=by
 have:=(metF_ends p ((p.take k).drop 1)).len
 rw[List.length_drop,List.length_take]at this
 unfold bk
 omega
theorem suffix_drop1 {a b:List Int} (h:a <:+ b) (hl:a.length<b.length):a <:+ b.drop 1:=by
 obtain⟨t,rfl⟩:=h
 cases t with
 | nil=>simp at hl
 | cons x t=>exact⟨t,rfl⟩
theorem ends_bk {p xs:List Int} {j k:Nat} (hk:Ends p xs k) (hj:Ends p xs j) (hlt:j<k):j≤bk p k:=by
 refine metF_max ⟨hj.1,suffix_drop1 (List.suffix_of_suffix_length_le hj.2 hk.2 ?_) ?_⟩
 ·rw[List.length_take,List.length_take];have:=hk.1;omega
 ·rw[List.length_take,List.length_take];have:=hk.1;omega
theorem bk_ends {p xs:List Int} {k:Nat} (hk:Ends p xs k):Ends p xs (bk p k):=by
 have h:=metF_ends p ((p.take k).drop 1)
 exact⟨h.1,h.2.trans ((List.drop_suffix 1 _).trans hk.2)⟩
def stepN (p:List Int) (n:Int):Nat->Nat->Nat
 | 0,_=>0
 | f+1,k=>if 0<k/\(k=p.length\/p[k]?≠some n) then stepN p n f (bk p k) else if p[k]?=some n then k+1 else k
theorem stepN_met {p xs:List Int} {n:Int} (hp:p≠[]):∀ (f k:Nat),k<f->Ends p xs k->(∀ j,Ends p xs j->p[j]?=some n->j≤k)->stepN p n f k=metF p (xs++[n])
 | 0,k,hf,hk,hm=>by omega
 | f+1,k,hf,hk,hm=>by
  unfold stepN
  by_cases hc:0<k/\(k=p.length\/p[k]?≠some n)
  ·rw[if_pos hc]
   have hb:=bk_lt hc.1 hk.1
   refine stepN_met hp f (bk p k) (by omega) (bk_ends hk) (fun j hj hn=>?_)
   have hjk:=hm j hj hn
   have hne:j≠k:=by
    rintro rfl
    rcases hc.2 with h|h
    ·obtain⟨hlt,_⟩:=List.getElem?_eq_some_iff.1 hn
     omega
    ·exact h hn
   exact ends_bk hk hj (by omega)
  ·rw[if_neg hc]
   by_cases hn:p[k]?=some n
   ·rw[if_pos hn]
    refine(metF_eq (ends_snoc.2 ⟨hk,hn⟩) (fun j hj=>?_)).symm
    cases j with
    | zero=>omega
    | succ j =>
     obtain⟨h1,h2⟩:=ends_snoc.1 hj
     have:=hm j h1 h2
     omega
   ·rw[if_neg hn]
    have hk0:k=0:=by
     rcases Nat.eq_zero_or_pos k with h|h
     ·exact h
     ·exact absurd ⟨h,.inr hn⟩ hc
    subst hk0
    refine(metF_eq (Ends.zero _ _) (fun j hj=>?_)).symm
    cases j with
    | zero=>omega
    | succ j =>
     obtain⟨h1,h2⟩:=ends_snoc.1 hj
     have:=hm j h1 h2
     obtain rfl:j=0:=by omega
     exact absurd h2 hn
theorem step_met {p xs:List Int} {n:Int} (hp:p≠[]) {f:Nat} (hf:p.length<f):stepN p n f (metF p xs)=metF p (xs++[n]) :=
 stepN_met hp f _ (Nat.lt_of_le_of_lt (metF_le p xs) hf) (metF_ends p xs) (fun j hj _=>metF_max hj)
theorem bk_zero (p:List Int):bk p 0=0:=by
 have:=(metF_ends p ((p.take 0).drop 1)).len
 simp at this
 exact this
theorem bk_one (p:List Int):bk p 1=0:=by
 have:=(metF_ends p ((p.take 1).drop 1)).len
 rw[List.length_drop,List.length_take]at this
 unfold bk
 omega
theorem bk_step {p:List Int} (hp:p≠[]) {i:Nat} (h1:1≤i) (hi:i<p.length) {f:Nat} (hf:p.length<f):stepN p p[i] f (bk p i)=bk p (i+1):=by
 unfold bk
 rw[step_met hp hf]
 congr 1
 rw[List.take_add_one,List.getElem?_eq_getElem hi,List.drop_append_of_le_length (by rw[List.length_take];omega)]
 rfl
theorem met_whole {p xs:List Int}:metF p xs=p.length↔p <:+ xs:=by
 constructor
 ·intro h
  have:=(metF_ends p xs).2
  rw[h,List.take_length]at this
  exact this
 ·intro h
  exact Nat.le_antisymm (metF_le p xs) (metF_max ⟨Nat.le_refl _,by rw[List.take_length];exact h⟩)
def partF (p xs:List Int):Nat:=metN p xs (p.length-1)
theorem part_met {p xs:List Int} (hp:p≠[]):partF p xs=if metF p xs=p.length then bk p p.length else metF p xs:=by
 have hpos:=List.length_pos_iff.2 hp
 have hle:=metN_le p xs (p.length-1)
 have he:=metN_ends p xs (p.length-1)
 split
 ·rename_i h
  have hw:Ends p xs p.length:=by rw[←h];exact metF_ends p xs
  refine Nat.le_antisymm (ends_bk hw he (by unfold partF at *;omega)) ?_
  exact metN_max (bk_ends hw) _ (by have:=bk_lt hpos (Nat.le_refl p.length);omega)
 ·rename_i h
  refine Nat.le_antisymm (metF_max he) (metN_max (metF_ends p xs) _ ?_)
  have:=metF_le p xs
  omega
end Go.Proofs.YtkffhgiiejbnaaaGreat.Sk
