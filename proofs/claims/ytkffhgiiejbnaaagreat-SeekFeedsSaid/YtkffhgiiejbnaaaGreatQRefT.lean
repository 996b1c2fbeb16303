import Derived.Test.YtkffhgiiejbnaaaGreatQTokF
import Derived.Test.YtkffhgiiejbnaaaGreatQ01
set_option linter.unusedVariables false
set_option linter.unusedSimpArgs false
set_option linter.unnecessarySimpa false
namespace Go.Proofs.YtkffhgiiejbnaaaGreat.Rt
open Go.RowKit YtkffhgiiejbnaaaGreatW.PrintWords Rf Aid Mp Hp Tk
theorem ba_toList (a b:ByteArray):a.toList=b.toList↔a=b:=by
 refine⟨fun h=>?_,fun h=>by rw[h]⟩
 rw[ByteArray.toList_eq,ByteArray.toList_eq]at h
 cases a;cases b;congr;exact Array.toList_inj.1 h
theorem rdOf_at {α:Type} (d:α) (l:List α) {i:Nat} (h:i<l.length):rdOf d l (i:Int)=l[i]:=by
 unfold rdOf;rw[Int.toNat_natCast,List.getD_eq_getElem?_getD,List.getElem?_eq_getElem h];rfl
def fdI (o:Option Nat):Int:=match o with|some i=>(i:Int)|none=>-1
theorem find_run (B:List ByteArray) (M:List S91) (s:ByteArray) (hB:B.length≤1000000):∀ (d k i:Nat),B.length-i=d->d<k->i≤B.length →
  ligatureref04_Table_Find.l0 k s (i:Int) B M=some (fdI (((B.drop i).findIdx? (fun x=>decide (x=s))).map (i + ·)))
 | 0,k,i,h0,h1,h2=>by
  obtain⟨k,rfl⟩:∃ m,k=m+1:=⟨k-1,Z1⟩
  simp only[ligatureref04_Table_Find.l0]
  rw[if_neg (Z1),List.drop_eq_nil_of_le (Z1)];rfl
 | d+1,k,i,h0,h1,h2=>by
  obtain⟨k,rfl⟩:∃ m,k=m+1:=⟨k-1,Z1⟩
  have hlt:i<B.length:=Z1
  simp only[ligatureref04_Table_Find.l0]
  rw[if_pos (Z1),if_pos (Z1),rdOf_at _ _ hlt,List.drop_eq_getElem_cons hlt,List.findIdx?_cons]
  by_cases hx:B[i]=s
  ·rw[if_pos ((ba_toList _ _).2 hx),decide_eq_true hx];simp[fdI]
  ·rw[if_neg (fun e=>hx ((ba_toList _ _).1 e)),decide_eq_false hx,w64 (Z1) (Z1),show ((i:Int)+1)=((i+1:Nat):Int) from Z1,find_run B M s hB d k (i+1) (Z1) (Z1) (Z1)]
   simp only[Bool.false_eq_true,if_false,Option.map_map]
   congr 2
   congr 1
   funext j;simp only[Function.comp];omega
def bL (E:List Ent):List ByteArray:=E.map (·.f0)
def mL (E:List Ent):List S91:=(E.drop 256).map (fun x=>⟨x.f1,x.f2⟩)
theorem find_some (E:List Ent) (M:List S91) (s:ByteArray) (hB:E.length≤1000000):ligatureref04_Table_Find.f (E.length+1) (bL E) M s=some (fdI (idxB E s)):=by
 unfold ligatureref04_Table_Find.f
 have h:=find_run (bL E) M s (by simpa[bL] using hB) E.length (E.length+1) 0 (by simp[bL]) (Z1) (Z1)
 rw[List.drop_zero]at h
 rw[show (0:Int)=((0:Nat):Int) from rfl,h]
 congr 2
 unfold bL idxB
 rw[List.findIdx?_map]
 simp[Function.comp_def]
theorem byt_small' {E:List Ent} (h:Tk.Good E) (a:Int):(byt E a).size≤64:=by
 unfold byt
 cases h1:E[a.toNat]? with
 | none=>decide
 | some x=>exact(h.small x (List.mem_of_getElem? h1)).2
theorem bL_len (E:List Ent):(bL E).length=E.length:=by simp[bL]
theorem has_some (E:List Ent) (M:List S91) (a:Int):ligatureref04_Table_Has.f (bL E) M a=some (hasE E a):=by
 unfold ligatureref04_Table_Has.f hasE
 rw[bL_len]
 by_cases h:0≤a
 ·rw[if_pos h];congr 1;rw[decide_eq_decide];omega
 ·rw[if_neg h];congr 1;symm;rw[decide_eq_false_iff_not];omega
theorem rd_byt {E:List Ent} {a:Int} (h:hasE E a=true):rdOf ByteArray.empty (bL E) a=byt E a:=by
 have h1:0≤a/\a<(E.length:Int):=of_decide_eq_true h
 obtain⟨i,rfl⟩:=Int.eq_ofNat_of_zero_le h1.1
 have hi:i<E.length:=Z1
 rw[rdOf_at _ _ (by rw[bL_len];exact hi),byt_at hi];simp[bL]
end Go.Proofs.YtkffhgiiejbnaaaGreat.Rt
