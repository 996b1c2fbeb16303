import Derived.Test.YtkffhgiiejbnaaaGreatZRefK
import Derived.Test.YtkffhgiiejbnaaaGreatZRefI
set_option maxHeartbeats 400000
set_option linter.unusedVariables false
set_option linter.unusedSimpArgs false
set_option linter.unnecessarySimpa false
namespace Go.Proofs.YtkffhgiiejbnaaaGreat.Rt
open Go.RowKit YtkffhgiiejbnaaaGreatW.PrintWords YtkffhgiiejbnaaaGreatW.PrintLast YtkffhgiiejbnaaaGreatW.PrintMore Rf Aid Mp Hp Tk Vc Ch En Bn
theorem bytesI_data (s:ByteArray):bytesI s=s.data.toList.map (fun u=>(u.toNat:Int)):=by
 unfold bytesI
 apply List.ext_getElem?
 intro i
 rw[List.getElem?_map,List.getElem?_map]
 by_cases h:i<s.size
 ·have h2:i<s.data.toList.length:=h
  rw[List.getElem?_range h,List.getElem?_eq_getElem h2]
  have:=bt_at s (i:Int) (Z12)
  simp only[Int.toNat_natCast]at this
  show some (bt s (i:Int))=some ((s.data.toList[i].toNat:Int))
  rw[←this]
  rfl
 ·have h2:¬ i<s.data.toList.length:=h
  rw[List.getElem?_eq_none (Z6),List.getElem?_eq_none (Z1)]
  rfl
theorem bytesI_app (a b:ByteArray):bytesI (a++b)=bytesI a++bytesI b:=by
 rw[bytesI_data,bytesI_data,bytesI_data,ByteArray.data_append,Array.toList_append,List.map_append]
def flatI (E:List Ent) (l:List Int):List Int:=(l.map (fun id=>bytesI (byt E id))).flatten
theorem flatI_cons (E:List Ent) (x:Int) (l:List Int):flatI E (x::l)=bytesI (byt E x)++flatI E l:=rfl
theorem pass_flat {E:List Ent} {a b id:Int} (h:byt E id=byt E a++byt E b):∀ l:List Int,flatI E (passL a b id l)=flatI E l
 | []=>rfl
 | [x]=>rfl
 | x::y::l=>by
  rw[passL_two]
  split
  ·rename_i hc
   rw[flatI_cons,pass_flat h l,flatI_cons,flatI_cons,h,bytesI_app,List.append_assoc,hc.1,hc.2]
  ·rw[flatI_cons,pass_flat h (y::l)];rfl
theorem pass_has {E:List Ent} {a b id:Int} (hi:hasE E id=true):∀ l:List Int,(∀ x∈l,hasE E x=true)->∀ x∈passL a b id l,hasE E x=true
 | [],h,x,hx=>Z125
 | [y],h,x,hx=>h x hx
 | y::z::l,h,x,hx=>by
  rw[passL_two]at hx
  split at hx
  ·rcases List.mem_cons.1 hx with rfl|hx
   ·exact hi
   ·exact pass_has hi l (fun q hq=>h q (List.mem_cons_of_mem _ (List.mem_cons_of_mem _ hq))) x hx
  ·rcases List.mem_cons.1 hx with rfl|hx
   ·exact h _ List.mem_cons_self
   ·exact pass_has hi (z::l) (fun q hq=>h q (List.mem_cons_of_mem _ hq)) x hx
theorem enc_flat {E:List Ent} (hG:Tk.Good E):∀ (d i:Nat) (l:List Int),256≤i->E.length-i=d->(∀ x∈l,hasE E x=true) →
  flatI E (encR ((E.drop i).map (fun x=>(x.f1,x.f2))) (i:Int) l)=flatI E l/\∀ x∈encR ((E.drop i).map (fun x=>(x.f1,x.f2))) (i:Int) l,hasE E x=true
 | 0,i,l,h1,h2,h=>by rw[List.drop_eq_nil_of_le (Z1)];exact⟨rfl,h⟩
 | d+1,i,l,h1,h2,h=>by
  have hlt:i<E.length:=Z1
  rw[List.drop_eq_getElem_cons hlt,List.map_cons]
  obtain⟨p1,p2,p3,p4,p5⟩:=hG.par i hlt h1
  have hb:byt E (i:Int)=byt E (E[i]).f1++byt E (E[i]).f2:=by rw[byt_at hlt,p5];rfl
  have hi:hasE E (i:Int)=true:=decide_eq_true ⟨Z1,Z1⟩
  have ih:=enc_flat hG d (i+1) (passL (E[i]).f1 (E[i]).f2 (i:Int) l) (Z1) (Z1) (pass_has hi l h)
  rw[pass_flat hb l]at ih
  rw[show ((i+1:Nat):Int)=(i:Int)+1 from Z1]at ih
  exact ih
theorem byt_byte {E:List Ent} (hG:Tk.Good E) {x:Int} (h:0≤x/\x<256):bytesI (byt E x)=[x]/\hasE E x=true:=by
 have hm:=hG.many
 obtain⟨n,rfl⟩:=Int.eq_ofNat_of_zero_le h.1
 have hn:n<256:=Z1
 have hlt:n<E.length:=Z1
 have he:E[n]=byteE n:=by
  have h1:(E.take 256)[n]?=some E[n]:=by rw[List.getElem?_take,if_pos hn,List.getElem?_eq_getElem hlt]
  rw[hG.first]at h1
  unfold byteL at h1
  rw[List.getElem?_map,List.getElem?_range hn]at h1
  injection h1 with h1
  exact h1.symm
 refine⟨?_,decide_eq_true ⟨Z1,Z1⟩⟩
 rw[byt_at hlt,he,bytesI_data]
 show [((UInt8.ofNat n).toNat:Int)]=[(n:Int)]
 rw[UInt8.toNat_ofNat',Nat.mod_eq_of_lt (Z1)]
theorem flat_raw {E:List Ent} (hG:Tk.Good E):∀ l:List Int,(∀ x∈l,0≤x/\x<256)->flatI E l=l/\∀ x∈l,hasE E x=true
 | [],h=>⟨rfl,fun x hx=>Z125⟩
 | x::l,h=>by
  have h1:=byt_byte hG (h x List.mem_cons_self)
  have h2:=flat_raw hG l (fun q hq=>h q (List.mem_cons_of_mem _ hq))
  refine⟨by rw[flatI_cons,h1.1,h2.1];rfl,fun q hq=>?_⟩
  rcases List.mem_cons.1 hq with rfl|hq
  ·exact h1.2
  ·exact h2.2 q hq
theorem encS_flat {E:List Ent} (hG:Tk.Good E) {p:List Int} (hb:∀ x∈p,0≤x/\x<256):flatI E (encS E (strOfNums p))=p/\∀ x∈encS E (strOfNums p),hasE E x=true:=by
 have h0:=flat_raw hG p hb
 have h1:=enc_flat hG (E.length-256) 256 p (Nat.le_refl _) rfl h0.2
 unfold encS rules
 rw[str_bytes hb]
 exact⟨h1.1.trans h0.1,h1.2⟩
theorem idx_none {s:Vc.Sp} (hok:VOk s) {x:Int} (h:hasE (tabOf s).1 x=true):Mk.idxI s.X x=none:=by
 unfold Mk.idxI
 rw[List.findIdx?_eq_none_iff]
 intro y hy
 have h1:=hok.ids y hy
 have h2:0≤x/\x<((tabOf s).1.length:Int):=of_decide_eq_true h
 exact decide_eq_false (Z1)
theorem items_tok {s:Vc.Sp} (hok:VOk s):∀ l:List Int,(∀ x∈l,hasE (tabOf s).1 x=true)->itL s l=flatI (tabOf s).1 l/\∀ x∈l,hasId s x=true
 | [],h=>⟨rfl,fun x hx=>Z125⟩
 | x::l,h=>by
  have hx:=h x List.mem_cons_self
  have ih:=items_tok hok l (fun q hq=>h q (List.mem_cons_of_mem _ hq))
  have e:itemsOf s x=bytesI (byt (tabOf s).1 x):=by unfold itemsOf;rw[idx_none hok hx];show bytesI (if _ then _ else _)=_;rw[if_pos hx]
  refine⟨?_,fun q hq=>?_⟩
  ·show itemsOf s x++itL s l=bytesI _++flatI _ l
   rw[e,ih.1]
  ·rcases List.mem_cons.1 hq with rfl|hq
   ·unfold hasId;rw[hx];simp
   ·exact ih.2 q hq
theorem items_mark {s:Vc.Sp} (hg:Mk.GoodS s.X) {m:Int} (h0:m<0) (h1:-(s.X.length:Int)≤m):itemsOf s (Mk.hasP s.X m).1.f0=[m]/\hasId s (Mk.hasP s.X m).1.f0=true:=by
 obtain⟨n,hn⟩:∃ n:Nat,-1-m=(n:Int):=Int.eq_ofNat_of_zero_le (Z1)
 have hlt:n<s.X.length:=Z1
 rw[rdX h0 h1,hn]
 have e:rd_T93 s.X (n:Int)=s.X[n]:=Z91
 have hi:Mk.idxI s.X (s.X[n]).f0=some n:=by
  unfold Mk.idxI
  rw[List.findIdx?_eq_some_iff_getElem]
  refine⟨hlt,by simp,fun j hj=>?_⟩
  have hd:=hg.apartI
  rw[List.nodup_iff_pairwise_ne,List.pairwise_iff_getElem]at hd
  have:=hd j n (by rw[List.length_map];omega) (by rw[List.length_map];exact hlt) hj
  rw[List.getElem_map,List.getElem_map]at this
  simpa using this
 rw[e]
 refine⟨?_,by unfold hasId;rw[hi];rfl⟩
 unfold itemsOf
 rw[hi]
 show [-1-(n:Int)]=[m]
 congr 1
 omega
theorem piece_back {s:Vc.Sp} (hok:VOk s) (hg:Mk.GoodS s.X) {p:List Int} (hp:PieceOk s p) (hr:∀ x∈p,rightP s x=true):itL s (pieceT s p)=p/\∀ x∈pieceT s p,hasId s x=true:=by
 obtain⟨h0,⟨a,rfl,ha⟩|hb⟩:=hp
 ·have hge:=(by have h:=hr a List.mem_cons_self;unfold rightP at h;simp at h;omega:-(s.X.length:Int)≤a)
  have h:=items_mark hg ha hge
  rw[pieceT_cons,if_pos ha]
  refine⟨?_,fun x hx=>by rw[List.mem_singleton.1 hx];exact h.2⟩
  show itemsOf s _++[]=[a]
  rw[h.1];rfl
 ·have h:=encS_flat (good_of s) hb
  rw[pieceT_bytes h0 hb]
  have h2:=items_tok hok _ h.2
  exact⟨h2.1.trans h.1,h2.2⟩
theorem itL_app (s:Vc.Sp) (l m:List Int):itL s (l++m)=itL s l++itL s m:=by unfold itL;rw[List.map_append,List.flatten_append]
theorem back_run {s:Vc.Sp} (hok:VOk s) (hg:Mk.GoodS s.X):∀ (f:Nat) (xs:List Int),xs.length≤f->(∀ x∈xs,rightP s x=true)->itL s ((pcsL s f xs).flatMap (pieceT s))=xs/\∀ x∈(pcsL s f xs).flatMap (pieceT s),hasId s x=true
 | 0,xs,hl,hr=>by
  obtain rfl:xs=[]:=List.eq_nil_of_length_eq_zero (Z1)
  exact⟨rfl,fun x hx=>Z125⟩
 | f+1,xs,hl,hr=>by
  by_cases h0:xs=[]
  ·subst h0;exact⟨rfl,fun x hx=>Z125⟩
  ·have hp:=cutN_pos s h0
   have hle:=cutN_le s xs
   have hcons:pcsL s (f+1) xs=xs.take (cutN s xs)::pcsL s f (xs.drop (cutN s xs)):=by
    conv=>lhs;unfold pcsL
    rw[if_neg h0]
   have ih:=back_run hok hg f (xs.drop (cutN s xs)) (Z2) (fun x hx=>hr x (List.mem_of_mem_drop hx))
   have hok1:PieceOk s (xs.take (cutN s xs)):=by
    have:=pcsF_ok (s:=s) (f+1) none 0 xs hr
    rw[pcsF_cons h0]at this
    exact this _ List.mem_cons_self
   have hb:=piece_back hok hg hok1 (fun x hx=>hr x (List.mem_of_mem_take hx))
   rw[hcons,List.flatMap_cons,itL_app,hb.1,ih.1,List.take_append_drop]
   refine⟨rfl,fun x hx=>?_⟩
   rcases List.mem_append.1 hx with hx|hx
   ·exact hb.2 x hx
   ·exact ih.2 x hx
theorem tok_back {s:Vc.Sp} (hok:VOk s) (hg:Mk.GoodS s.X) {items:List Int} (hr:∀ x∈items,rightP s x=true):itF s (tokL s items) 0 []=(items,(tokL s items).length,0):=by
 have h:=back_run hok hg items.length items (Nat.le_refl _) hr
 rw[itF_bad]
 have hb:badF s (tokL s items)=none:=by
  unfold badF
  rw[List.findIdx?_eq_none_iff]
  intro x hx
  rw[h.2 x hx]
  rfl
 rw[hb]
 show ([]++itL s (tokL s items),0+(tokL s items).length,0)=_
 rw[List.nil_append,Nat.zero_add]
 unfold tokL at h ⊢
 rw[h.1]
end Go.Proofs.YtkffhgiiejbnaaaGreat.Rt
