import Derived.Test.YtkffhgiiejbnaaaGreatQOf
import Derived.Test.YtkffhgiiejbnaaaGreatQDecA
import Derived.Test.YtkffhgiiejbnaaaGreatQ01
import Derived.Test.YtkffhgiiejbnaaaGreatQ02
import Derived.Test.YtkffhgiiejbnaaaGreatQ03
set_option linter.unusedVariables false
set_option linter.unusedSimpArgs false
set_option linter.unnecessarySimpa false
namespace Go.Proofs.YtkffhgiiejbnaaaGreat.Rt
open Go.RowKit YtkffhgiiejbnaaaGreatW.PrintWords YtkffhgiiejbnaaaGreatW.PrintLast YtkffhgiiejbnaaaGreatW.PrintMore Rf Aid Mp Hp Tk Vc Dc
theorem great9 (X:List S93) (hX:X.length≤9223372036854775807):∀ (d k i:Nat),X.length-i=d->d<k->i≤X.length->∃ g,ligatureref09_Great.l0 k X (i:Int)=some g
 | 0,k,i,h0,h1,h2=>by
  obtain⟨k,rfl⟩:∃ m,k=m+1:=⟨k-1,Z1⟩
  simp only[ligatureref09_Great.l0]
  rw[if_neg (Z1)]
  exact⟨_,rfl⟩
 | d+1,k,i,h0,h1,h2=>by
  obtain⟨k,rfl⟩:∃ m,k=m+1:=⟨k-1,Z1⟩
  simp only[ligatureref09_Great.l0]
  rw[if_pos (Z1),if_pos (Z1)]
  split
  ·exact⟨_,rfl⟩
  ·rw[w64 (Z1) (Z1),show ((i:Int)+1)=((i+1:Nat):Int) from Z1]
   exact great9 X hX d k (i+1) (Z1) (Z1) (Z1)
theorem great_some (L:List Int) (C:List S165) (J:List S108) (X:List S93) (hX:X.length≤9223372036854775807):∃ g:Int,ligaturelaw12_Great.f (X.length+1) L C J X=some g/\(g=0\/g=1):=by
 obtain⟨g,hg⟩:=great9 X hX X.length (X.length+1) 0 (Z1) (Z1) (Z1)
 have hg:ligatureref09_Great.f (X.length+1) X=some g:=hg
 unfold ligaturelaw12_Great.f ligatureref10_Great.f
 rw[hg]
 by_cases h1:(L.length:Int)>60
 ·rw[if_pos h1];exact⟨1,rfl,.inr rfl⟩
 rw[if_neg h1]
 by_cases h2:(C.length:Int)>20
 ·rw[if_pos h2];exact⟨1,rfl,.inr rfl⟩
 rw[if_neg h2]
 by_cases h3:(J.length:Int)>20
 ·rw[if_pos h3];exact⟨1,rfl,.inr rfl⟩
 rw[if_neg h3]
 cases g
 ·exact⟨0,rfl,.inl rfl⟩
 ·exact⟨1,rfl,.inr rfl⟩
theorem great_any {A0 A1 A2 A3:Option Addr} {c0 c1 c2 c3:Nat} {L:List Int} {C:List S165} {J:List S108} {X:List S93} {w:World} (h:CaseAt w A0 A1 A2 A3 c0 c1 c2 c3 L C J X) :
  ∃ g:Int,(g=0\/g=1)/\∀ W,Below w.heap.size w W->Calls Tryz.prog 13 #[caseV A0 A1 A2 A3 c0 c1 c2 c3 L C J X] W fun e w'=>e=.returned (.int .i64 g)/\Below W.heap.size W w':=by
 obtain⟨g,hg,h01⟩:=great_some L C J X h.hX.2.1
 refine⟨g,h01,fun W hW=>?_⟩
 have h':=h.below hW
 exact ligaturelaw12_Great.calls _ A0 c0 L A1 c1 C A2 c2 J A3 c3 X g W h'.hL h'.h0 h'.hC h'.h1 h'.hJ h'.h2 h'.hX h'.h3 hg
def mkI (o:Option Nat):Int:=match o with|some i=>-1-(i:Int)|none=>0
theorem mark_run (B:List ByteArray) (M:List S91) (C:List S165) (J:List S108) (X:List S93) (id:Int) (hX:X.length≤1000):∀ (d k i:Nat),X.length-i=d->d<k->i≤X.length →
  ligatureref10_Vocab_Mark.l0 k id (i:Int) B M C J X=some (mkI (((X.drop i).findIdx? (fun x=>decide (x.f0=id))).map (i + ·)))
 | 0,k,i,h0,h1,h2=>by
  obtain⟨k,rfl⟩:∃ m,k=m+1:=⟨k-1,Z1⟩
  simp only[ligatureref10_Vocab_Mark.l0]
  rw[if_neg (Z1),List.drop_eq_nil_of_le (Z1)];rfl
 | d+1,k,i,h0,h1,h2=>by
  obtain⟨k,rfl⟩:∃ m,k=m+1:=⟨k-1,Z1⟩
  have hlt:i<X.length:=Z1
  have hrd:rd_T93 X (i:Int)=X[i]:=Z84
  simp only[ligatureref10_Vocab_Mark.l0]
  rw[if_pos (Z1),if_pos (Z1),hrd,List.drop_eq_getElem_cons hlt,List.findIdx?_cons]
  by_cases hx:(X[i]).f0=id
  ·rw[if_pos hx,decide_eq_true hx,w64 (Z1) (Z1)];simp[mkI]
  ·rw[if_neg hx,decide_eq_false hx,w64 (Z1) (Z1),show ((i:Int)+1)=((i+1:Nat):Int) from Z1,mark_run B M C J X id hX d k (i+1) (Z1) (Z1) (Z1)]
   simp only[Bool.false_eq_true,if_false,Option.map_map]
   congr 2
   congr 1
   funext j;simp only[Function.comp];omega
theorem mark_some (B:List ByteArray) (M:List S91) (C:List S165) (J:List S108) (X:List S93) (id:Int) (hX:X.length≤1000) (k:Nat) (hk:X.length<k):ligatureref10_Vocab_Mark.f k B M C J X id=some (mkI (Mk.idxI X id)):=by
 have h:=mark_run B M C J X id hX X.length k 0 (Z1) hk (Z1)
 unfold ligatureref10_Vocab_Mark.f
 rw[List.drop_zero]at h
 rw[show (0:Int)=((0:Nat):Int) from rfl,h]
 unfold Mk.idxI
 congr 2
 cases X.findIdx? fun x=>decide (x.f0=id) <;> simp
theorem mkI_neg {o:Option Nat}:mkI o<0↔o.isSome=true:=by
 cases o with
 | none=>simp[mkI]
 | some i=>simp only[mkI,Option.isSome_some,iff_true];omega
theorem vhas_some (s:Vc.Sp) (id:Int) (hX:s.X.length≤1000) (k:Nat) (hk:s.X.length<k):ligatureref10_Vocab_Has.f k (bL (tabOf s).1) (mL (tabOf s).1) s.C s.J s.X id=some (hasId s id):=by
 unfold ligatureref10_Vocab_Has.f
 rw[has_some,mark_some _ _ _ _ _ _ hX k hk]
 unfold hasId
 cases h:hasE (tabOf s).1 id with
 | true=>simp
 | false =>
  simp only[Option.bind_some,Bool.false_eq_true,if_false,Bool.or_false]
  congr 1
  rw[Bool.eq_iff_iff,decide_eq_true_eq]
  exact mkI_neg
def badF (s:Vc.Sp) (ids:List Int):Option Nat:=ids.findIdx? (fun id=>!hasId s id)
def badI (o:Option Nat):Int:=match o with|some i=>(i:Int)|none=>-1
theorem bad_run (s:Vc.Sp) (hX:s.X.length≤1000) (ids:List Int) (hl:ids.length≤1000000):∀ (d k i:Nat),ids.length-i=d->d+s.X.length+1<k->i≤ids.length →
  ligatureref10_Vocab_Bad.l0 k ids (i:Int) (bL (tabOf s).1) (mL (tabOf s).1) s.C s.J s.X=some (badI (((ids.drop i).findIdx? (fun id=>!hasId s id)).map (i + ·)))
 | 0,k,i,h0,h1,h2=>by
  obtain⟨k,rfl⟩:∃ m,k=m+1:=⟨k-1,Z1⟩
  simp only[ligatureref10_Vocab_Bad.l0]
  rw[if_neg (Z1),List.drop_eq_nil_of_le (Z1)];rfl
 | d+1,k,i,h0,h1,h2=>by
  obtain⟨k,rfl⟩:∃ m,k=m+1:=⟨k-1,Z1⟩
  have hlt:i<ids.length:=Z1
  simp only[ligatureref10_Vocab_Bad.l0]
  rw[if_pos (Z1),if_pos (Z1),rdI hlt,vhas_some s _ hX k (Z1),List.drop_eq_getElem_cons hlt,List.findIdx?_cons]
  simp only[Option.bind_some]
  cases hx:hasId s ids[i] with
  | false=>simp[badI]
  | true =>
   rw[if_pos rfl,w64 (Z1) (Z1),show ((i:Int)+1)=((i+1:Nat):Int) from Z1,bad_run s hX ids hl d k (i+1) (Z1) (Z1) (Z1)]
   simp only[Bool.not_true,Bool.false_eq_true,if_false,Option.map_map]
   congr 2
   congr 1
   funext j;simp only[Function.comp];omega
theorem bad_some (s:Vc.Sp) (hX:s.X.length≤1000) (ids:List Int) (hl:ids.length≤1000000):ligatureref10_Vocab_Bad.f (ids.length+s.X.length+2) (bL (tabOf s).1) (mL (tabOf s).1) s.C s.J s.X ids=some (badI (badF s ids)):=by
 have h:=bad_run s hX ids hl ids.length (ids.length+s.X.length+2) 0 (Z1) (Z1) (Z1)
 unfold ligatureref10_Vocab_Bad.f
 rw[List.drop_zero]at h
 rw[show (0:Int)=((0:Nat):Int) from rfl,h]
 unfold badF
 congr 2
 cases ids.findIdx? fun id=>!hasId s id <;> simp
def itL (s:Vc.Sp) (ids:List Int):List Int:=(ids.map (itemsOf s)).flatten
theorem small_of {s:Vc.Sp} (h:VOk s):∀ x∈(tabOf s).1,1≤x.f0.size/\x.f0.size≤64:=(Good.new Good.begin_).small
theorem items_inner (B:List ByteArray) (M:List S91) (C:List S165) (J:List S108) (X:List S93) (ids:List Int) (i:Nat) (hi:i<1000000) (t:ByteArray) (ht:t.size≤64):∀ (d k j:Nat) (acc:List Int),t.size-j=d->j≤t.size->acc.length+d≤1000000000 →
  ligatureref10_Vocab_Items.l1 (d+1+k) ids acc (i:Int) t (j:Int) B M C J X=ligatureref10_Vocab_Items.l0 k ids (acc++(bytesI t).drop j) ((i+1:Nat):Int) B M C J X
 | 0,k,j,acc,h0,h1,h2=>by
  rw[show 0+1+k=k+1 from Z1]
  simp only[ligatureref10_Vocab_Items.l1]
  rw[if_neg (Z1),List.drop_eq_nil_of_le (Z115),List.append_nil,w64 (Z1) (Z1)]
  congr 1
 | d+1,k,j,acc,h0,h1,h2=>by
  rw[show d+1+1+k=(d+1+k)+1 from Z1]
  have hj:j<(bytesI t).length:=Z115
  have hb:=bt_range t j
  simp only[ligatureref10_Vocab_Items.l1]
  rw[if_pos (Z1),if_pos (Z1),if_pos (Z1),w64 (i:=(j:Int)+1) (Z1) (Z1),show ((j:Int)+1)=((j+1:Nat):Int) from Z1,w64 (Z1) (Z1),items_inner B M C J X ids i hi t ht d k (j+1) _ (Z1) (Z1) (Z6),List.drop_eq_getElem_cons hj,List.append_assoc]
  congr 2
  simp[bytesI]
theorem items_run (s:Vc.Sp) (h:VOk s) (ids:List Int) (hl:ids.length≤10000) (hall:∀ id∈ids,hasId s id=true):∀ (d k i:Nat) (acc:List Int),ids.length-i=d->100 * d+1≤k->i≤ids.length->acc.length≤64 * i →
  ligatureref10_Vocab_Items.l0 k ids acc (i:Int) (bL (tabOf s).1) (mL (tabOf s).1) s.C s.J s.X=some (acc++itL s (ids.drop i))
 | 0,k,i,acc,h0,h1,h2,h3=>by
  obtain⟨k,rfl⟩:∃ m,k=m+1:=⟨k-1,Z1⟩
  simp only[ligatureref10_Vocab_Items.l0]
  rw[if_neg (Z1),List.drop_eq_nil_of_le (Z1)];simp[itL]
 | d+1,k,i,acc,h0,h1,h2,h3=>by
  obtain⟨k,rfl⟩:∃ m,k=m+1:=⟨k-1,Z1⟩
  have hlt:i<ids.length:=Z1
  have hid:=hall _ (List.getElem_mem hlt)
  have hX:=h.sp.nX
  simp only[ligatureref10_Vocab_Items.l0]
  rw[if_pos (Z1),if_pos (Z1),rdI hlt,mark_some _ _ _ _ _ _ (Z1) k (Z1),List.drop_eq_getElem_cons hlt]
  generalize ids[i]=id at *
  simp only[Option.bind_some]
  have hit:itL s (id::ids.drop (i+1))=itemsOf s id++itL s (ids.drop (i+1)):=by simp[itL]
  rw[hit]
  unfold itemsOf
  cases hm:Mk.idxI s.X id with
  | some m =>
   rw[if_pos (mkI_neg.2 rfl),if_pos (Z1),w64 (Z1) (Z1),show ((i:Int)+1)=((i+1:Nat):Int) from Z1,items_run s h ids hl hall d k (i+1) _ (Z1) (Z1) (Z1) (Z6)]
   simp[mkI]
  | none =>
   have hE:hasE (tabOf s).1 id=true:=by
    unfold hasId at hid
    rw[hm]at hid
    simpa using hid
   have h1':0≤id/\id<((tabOf s).1.length:Int):=of_decide_eq_true hE
   rw[if_neg (by simp[mkI]),if_pos h1'.1,if_pos (by rw[bL_len];exact h1'.2),rd_byt hE]
   have hsz:=byt_small (small_of h) id
   rw[if_pos hE]at hsz ⊢
   generalize byt (tabOf s).1 id=t at *
   obtain⟨k',hk'⟩:∃ k',k=t.size+1+k':=⟨k-(t.size+1),Z1⟩
   rw[hk',show (0:Int)=((0:Nat):Int) from rfl,items_inner _ _ _ _ _ ids i (Z1) t hsz t.size k' 0 acc (Z1) (Z1) (Z1),List.drop_zero]
   rw[items_run s h ids hl hall d k' (i+1) _ (Z1) (Z1) (Z1) (by rw[List.length_append,bytesI_len];omega)]
   simp
theorem items_some (s:Vc.Sp) (h:VOk s) (ids:List Int) (hl:ids.length≤10000) (hb:badF s ids=none):ligatureref10_Vocab_Items.f (100 * ids.length+1) (bL (tabOf s).1) (mL (tabOf s).1) s.C s.J s.X ids=some (itL s ids):=by
 have hall:∀ id∈ids,hasId s id=true:=fun id hid=>by
  unfold badF at hb
  rw[List.findIdx?_eq_none_iff]at hb
  simpa using hb id hid
 have:=items_run s h ids hl hall ids.length (100 * ids.length+1) 0 [] (Z1) (Z1) (Z1) (by simp)
 unfold ligatureref10_Vocab_Items.f
 rw[show (0:Int)=((0:Nat):Int) from rfl,this]
 simp
end Go.Proofs.YtkffhgiiejbnaaaGreat.Rt
