import Derived.Test.YtkffhgiiejbnaaaGreatZRF21
import Derived.Test.YtkffhgiiejbnaaaGreatZRefT
import Derived.Test.YtkffhgiiejbnaaaGreatZEncG
import Derived.Test.YtkffhgiiejbnaaaGreatZ02
import Derived.Test.YtkffhgiiejbnaaaGreatZRefP
set_option maxHeartbeats 400000
set_option linter.unusedVariables false
set_option linter.unusedSimpArgs false
namespace Go.Proofs.YtkffhgiiejbnaaaGreat.Rt
open Go.RowKit YtkffhgiiejbnaaaGreatW.PrintWords YtkffhgiiejbnaaaGreatW.PrintLast YtkffhgiiejbnaaaGreatW.PrintMore Rf Aid Mp Hp Tk Vc Ch En
def Ev {α:Type} (g:Nat->Option α) (r:α):Prop:=∃ k0,∀ k,k0≤k->g k=some r
theorem Ev.step {α:Type} {g g':Nat->Option α} {r:α} (h:∀ k,g (k+1)=g' k) (H:Ev g' r):Ev g r:=by
 obtain⟨k0,hk⟩:=H
 refine⟨k0+1,fun k hle=>?_⟩
 obtain⟨m,rfl⟩:∃ m,k=m+1:=⟨k-1,Z1⟩
 rw[h,hk m (Z1)]
theorem Ev.bind {α β:Type} {g:Nat->Option α} {h:Nat->α->Option β} {a:α} {r:β} (H:Ev g a) (K:Ev (fun k=>h k a) r):Ev (fun k=>(g k).bind (h k)) r:=by
 obtain⟨k0,h0⟩:=H
 obtain⟨k1,h1⟩:=K
 exact⟨max k0 k1,fun k hk=>by show (g k).bind (h k)=_;rw[h0 k (Z1)];exact h1 k (Z1)⟩
theorem Ev.done {α:Type} {r:α}:Ev (fun _=>some r) r:=⟨0,fun _ _=>rfl⟩
theorem rdM {M:List S91} {j:Nat} (h:j<M.length):rd_T91 M (j:Int)=M[j]:=by
 unfold rd_T91;rw[Int.toNat_natCast,List.getD_eq_getElem?_getD,List.getElem?_eq_getElem h];rfl
theorem passL_two (a b id x y:Int) (l:List Int):passL a b id (x::y::l)=if x=a/\y=b then id::passL a b id l else x::passL a b id (y::l):=rfl
theorem passL_one (a b id x:Int):passL a b id [x]=[x]:=rfl
theorem passL_nil (a b id:Int):passL a b id []=[]:=rfl
theorem snoc_le {α:Type} {l:List α} {x:α} {i n:Nat} (h:l.length≤i) (hn:i+1≤n):(l++[x]).length≤n:=by rw[List.length_append];simp;omega
theorem pass_ev {B:List ByteArray} {M:List S91} {x2:Int} {xs:List Int} {j:Nat} (hj:j<M.length) (hM:M.length≤1000) (hl:xs.length≤100000) {r:List Int}
  (H:Ev (fun k=>ligatureref05_Encode.l1 k x2 (passL (M[j]).f0 (M[j]).f1 (256+(j:Int)) xs) ((j+1:Nat):Int) B M) r) :
  ∀ (d i:Nat) (out:List Int),xs.length-i≤d->i≤xs.length->out.length≤i->out++passL (M[j]).f0 (M[j]).f1 (256+(j:Int)) (xs.drop i)=passL (M[j]).f0 (M[j]).f1 (256+(j:Int)) xs->Ev (fun k=>ligatureref05_Encode.l2 k x2 xs (j:Int) out (i:Int) B M) r
 | d,i,out,hd,hi,ho,he=>by
  have hw1:wrap64 ((i:Int)+1)=((i+1:Nat):Int):=(w64 (Z1) (Z1)).trans (Z1)
  have hw2:wrap64 (((i+1:Nat):Int)+1)=((i+1+1:Nat):Int):=(w64 (Z1) (Z1)).trans (Z1)
  have hwj:wrap64 ((j:Int)+1)=((j+1:Nat):Int):=(w64 (Z1) (Z1)).trans (Z1)
  have hwi:wrap64 (256+(j:Int))=256+(j:Int):=w64 (Z1) (Z1)
  by_cases hlt:i<xs.length
  ·obtain⟨d,rfl⟩:∃ e,d=e+1:=⟨d-1,Z1⟩
   have hx:=rdI hlt
   by_cases hlt2:i+1<xs.length
   ·have hy:=rdI hlt2
    have hdr:xs.drop i=xs[i]::xs[i+1]::xs.drop (i+1+1):=by rw[List.drop_eq_getElem_cons hlt,List.drop_eq_getElem_cons hlt2]
    have hdr1:xs.drop (i+1)=xs[i+1]::xs.drop (i+1+1):=List.drop_eq_getElem_cons hlt2
    rw[hdr,passL_two]at he
    by_cases hab:xs[i]=(M[j]).f0/\xs[i+1]=(M[j]).f1
    ·rw[if_pos hab]at he
     refine Ev.step (g':=fun k=>ligatureref05_Encode.l2 k x2 xs (j:Int) (out++[256+(j:Int)]) ((i+1+1:Nat):Int) B M) (fun k=>?_) (pass_ev hj hM hl H d (i+1+1) _ (Z1) (Z1) (snoc_le ho (Z1)) (by rw[List.append_assoc];exact he))
     simp only[ligatureref05_Encode.l2]
     rw[if_pos (Z1),hw1,if_pos (Z1),if_pos (Z1),if_pos (Z1),if_pos (Z1),hx,hy,rdM hj,if_pos hab.1,if_pos (Z1),if_pos hab.2,if_pos (Z1),hwi,hw2]
    ·rw[if_neg hab,←hdr1]at he
     refine Ev.step (g':=fun k=>ligatureref05_Encode.l2 k x2 xs (j:Int) (out++[xs[i]]) ((i+1:Nat):Int) B M) (fun k=>?_) (pass_ev hj hM hl H d (i+1) _ (Z1) (Z1) (snoc_le ho (Z1)) (by rw[List.append_assoc];exact he))
     simp only[ligatureref05_Encode.l2]
     rw[if_pos (Z1),hw1,if_pos (Z1),if_pos (Z1),if_pos (Z1),if_pos (Z1),hx,hy,rdM hj]
     by_cases ha:xs[i]=(M[j]).f0
     ·rw[if_pos ha,if_pos (Z1),if_neg (fun hb=>hab ⟨ha,hb⟩),if_pos (Z1)]
     ·rw[if_neg ha,if_pos (Z1)]
   ·have hdr:xs.drop i=[xs[i]]:=by rw[List.drop_eq_getElem_cons hlt,List.drop_eq_nil_of_le (Z1)]
    have hdr1:xs.drop (i+1)=[]:=List.drop_eq_nil_of_le (Z1)
    rw[hdr,passL_one]at he
    refine Ev.step (g':=fun k=>ligatureref05_Encode.l2 k x2 xs (j:Int) (out++[xs[i]]) ((i+1:Nat):Int) B M) (fun k=>?_) (pass_ev hj hM hl H d (i+1) _ (Z1) (Z1) (snoc_le ho (Z1)) (by rw[hdr1,passL_nil,List.append_nil];exact he))
    simp only[ligatureref05_Encode.l2]
    rw[if_pos (Z1),hw1,if_neg (Z1),if_pos (Z1),if_pos (Z1),hx]
  ·have hdr:xs.drop i=[]:=List.drop_eq_nil_of_le (Z1)
   rw[hdr]at he
   have he2:out=passL (M[j]).f0 (M[j]).f1 (256+(j:Int)) xs:=by rw[passL_nil,List.append_nil]at he;exact he
   refine Ev.step (g':=fun k=>ligatureref05_Encode.l1 k x2 out ((j+1:Nat):Int) B M) (fun k=>?_) (by rw[he2];exact H)
   simp only[ligatureref05_Encode.l2]
   rw[if_neg (Z1),hwj]
theorem passes_ev {B:List ByteArray} {M:List S91} (hM:M.length≤1000) :
  ∀ (d j:Nat) (xs:List Int),M.length-j=d->j≤M.length->xs.length≤100000->Ev (fun k=>ligatureref05_Encode.l1 k (256+(M.length:Int)) xs (j:Int) B M) (encR ((M.drop j).map (fun x=>(x.f0,x.f1))) (256+(j:Int)) xs)
 | 0,j,xs,h1,h2,h3=>by
  rw[List.drop_eq_nil_of_le (Z1)]
  refine Ev.step (g':=fun k=>ligatureref05_Encode.j2 k (256+(M.length:Int)) xs (j:Int) false B M) (fun k=>?_) (Ev.step (g':=fun k=>some xs) (fun k=>?_) Ev.done)
  ·simp only[ligatureref05_Encode.l1]
   rw[if_neg (Z1)]
  ·simp only[ligatureref05_Encode.j2]
   rw[if_neg (Z32)]
 | d+1,j,xs,h1,h2,h3=>by
  have hlt:j<M.length:=Z1
  have hwi:wrap64 (256+(j:Int))=256+(j:Int):=w64 (Z1) (Z1)
  rw[List.drop_eq_getElem_cons hlt,List.map_cons]
  have ih:=passes_ev (B:=B) hM d (j+1) (passL (M[j]).f0 (M[j]).f1 (256+(j:Int)) xs) (Z1) (Z1) (Nat.le_trans (passL_len _ _ _ xs) h3)
  rw[show (256:Int)+((j+1:Nat):Int)=256+(j:Int)+1 from Z1]at ih
  refine Ev.step (g':=fun k=>ligatureref05_Encode.j2 k (256+(M.length:Int)) xs (j:Int) true B M) (fun k=>?_) (Ev.step (g':=fun k=>ligatureref05_Encode.l2 k (256+(M.length:Int)) xs (j:Int) [] 0 B M) (fun k=>?_) (pass_ev hlt hM h3 ih xs.length 0 [] (Z1) (Z1) (by simp) (by simp)))
  ·simp only[ligatureref05_Encode.l1]
   rw[if_pos (Z1),hwi,decide_eq_true (Z1)]
  ·simp only[ligatureref05_Encode.j2]
   rw[if_pos trivial]
theorem bytes_ev {B:List ByteArray} {M:List S91} {s:ByteArray} (hM:M.length≤1000) (hs:s.size≤100000) :
  ∀ (d i:Nat) (xs:List Int),s.size-i=d->i≤s.size->xs=(List.range i).map (fun q:Nat=>bt s (q:Int))->Ev (fun k=>ligatureref05_Encode.l0 k s (256+(M.length:Int)) xs (i:Int) B M) (encR (M.map (fun x=>(x.f0,x.f1))) 256 ((List.range s.size).map (fun q:Nat=>bt s (q:Int))))
 | 0,i,xs,h1,h2,h3=>by
  obtain rfl:i=s.size:=Z1
  have h:=passes_ev (B:=B) hM M.length 0 xs (Z1) (Z1) (by rw[h3];simp;omega)
  rw[List.drop_zero,h3]at h
  refine Ev.step (g':=fun k=>ligatureref05_Encode.l1 k (256+(M.length:Int)) xs 0 B M) (fun k=>?_) (by rw[h3];exact h)
  simp only[ligatureref05_Encode.l0]
  rw[if_neg (Z1)]
 | d+1,i,xs,h1,h2,h3=>by
  have hw1:wrap64 ((i:Int)+1)=((i+1:Nat):Int):=(w64 (Z1) (Z1)).trans (Z1)
  have hb:=bt_range s (i:Int)
  have hwb:wrap64 (bt s (i:Int))=bt s (i:Int):=w64 (Z1) (Z1)
  have hl:xs.length=i:=by rw[h3];simp
  refine Ev.step (g':=fun k=>ligatureref05_Encode.l0 k s (256+(M.length:Int)) (xs++[bt s (i:Int)]) ((i+1:Nat):Int) B M) (fun k=>?_) (bytes_ev hM hs d (i+1) _ (Z1) (Z1) (by rw[h3,List.range_succ,List.map_append];rfl))
  simp only[ligatureref05_Encode.l0]
  rw[if_pos (Z1),if_pos (Z1),if_pos (Z1),hwb,hw1]
theorem rules_mL (E:List Ent):(mL E).map (fun x=>(x.f0,x.f1))=rules E:=by unfold mL rules;rw[List.map_map];rfl
theorem mL_length {E:List Ent} (h:256≤E.length):256+(mL E).length=E.length:=Z85
theorem all_ev {E:List Ent} (hG:Tk.Good E) {s:ByteArray} (hs:s.size≤100000):Ev (fun k=>ligatureref05_All.f k (bL E) (mL E) s) (encS E s):=by
 have hm:=hG.many
 have h1:=mL_length hm.1
 have h:=bytes_ev (B:=bL E) (M:=mL E) (s:=s) (Z1) hs s.size 0 [] (Z1) (Z1) rfl
 rw[rules_mL]at h
 unfold ligatureref05_All.f ligatureref05_Encode.f
 rw[show ((bL E).length:Int)=256+((mL E).length:Int) from Z84]
 exact Ev.bind (h:=fun _ t=>some t) h Ev.done
end Go.Proofs.YtkffhgiiejbnaaaGreat.Rt
namespace Go.Proofs.YtkffhgiiejbnaaaGreat.Rt
open Go.RowKit YtkffhgiiejbnaaaGreatW.PrintWords YtkffhgiiejbnaaaGreatW.PrintLast YtkffhgiiejbnaaaGreatW.PrintMore Rf Aid Mp Hp Tk Vc Ch En Bn
def cutQ (s:Vc.Sp) (a b:Int):Bool:=decide (a<0\/b<0\/cutP s a.toNat b.toNat=true)
def addH (a:Int):List (List Int)->List (List Int)
 | []=>[[a]]
 | p::ps=>(a::p)::ps
def grp (s:Vc.Sp):List Int->List (List Int)
 | []=>[]
 | [a]=>[[a]]
 | a::b::l=>if cutQ s a b=true then [a]::grp s (b::l) else addH a (grp s (b::l))
theorem grp_two (s:Vc.Sp) (a b:Int) (l:List Int):grp s (a::b::l)=if cutQ s a b=true then [a]::grp s (b::l) else addH a (grp s (b::l)):=rfl
theorem grp_ne (s:Vc.Sp):∀ (a:Int) (l:List Int),∃ p ps,grp s (a::l)=p::ps
 | a,[]=>⟨[a],[],rfl⟩
 | a,b::l=>by
  rw[grp_two]
  split
  ·exact⟨_,_,rfl⟩
  ·obtain⟨p,ps,h⟩:=grp_ne s b l
   rw[h]
   exact⟨_,_,rfl⟩
theorem pcsL_fuel {s:Vc.Sp} {f g:Nat} {xs:List Int} (h1:xs.length≤f) (h2:xs.length≤g):pcsL s f xs=pcsL s g xs:=by
 rw[←pcsF_map s f none 0 xs,←pcsF_map s g none 0 xs,pcsF_fuel f g none 0 xs h1 h2]
theorem cutN_two (s:Vc.Sp) (a b:Int) (l:List Int):cutN s (a::b::l)=if cutQ s a b=true then 1 else 1+cutN s (b::l):=by
 conv=>lhs;unfold cutN
 unfold cutQ
 simp only[decide_eq_true_eq]
theorem pcsL_grp (s:Vc.Sp):∀ (f:Nat) (xs:List Int),xs.length≤f->pcsL s f xs=grp s xs
 | 0,xs,h=>by
  obtain rfl:xs=[]:=List.eq_nil_of_length_eq_zero (Z1)
  rfl
 | f+1,[],h=>rfl
 | f+1,[a],h=>by
  unfold pcsL
  rw[if_neg (by simp)]
  rw[show cutN s [a]=1 from rfl]
  show [a]::pcsL s f []=[[a]]
  rw[pcsL_grp s f [] (by simp)]
  rfl
 | f+1,a::b::l,h=>by
  have hbl:(b::l).length≤f:=by simp at h ⊢;omega
  have ih:=pcsL_grp s f (b::l) hbl
  unfold pcsL
  rw[if_neg (by simp),cutN_two,grp_two]
  by_cases hc:cutQ s a b=true
  ·rw[if_pos hc,if_pos hc]
   show [a]::pcsL s f (b::l)=_
   rw[ih]
  ·rw[if_neg hc,if_neg hc,Nat.add_comm,List.take_succ_cons,List.drop_succ_cons]
   obtain⟨f',rfl⟩:∃ f',f=f' + 1:=⟨f-1,by simp at hbl;omega⟩
   have hle:=cutN_le s (b::l)
   have hp:=cutN_pos s (l:=b::l) (by simp)
   have hd:((b::l).drop (cutN s (b::l))).length≤f':=Z2
   rw[pcsL_fuel (f:=f' + 1) (g:=f') (Z1) hd]
   have e:pcsL s (f' + 1) (b::l)=(b::l).take (cutN s (b::l))::pcsL s f' ((b::l).drop (cutN s (b::l))):=by
    conv=>lhs;unfold pcsL
    rw[if_neg (by simp)]
   rw[←ih,e]
   rfl
theorem tokL_grp (s:Vc.Sp) (xs:List Int):tokL s xs=(grp s xs).flatMap (pieceT s):=by
 unfold tokL
 rw[pcsL_grp s xs.length xs (Nat.le_refl _)]
theorem grp_neg (s:Vc.Sp) {x:Int} (hx:x<0) (rest:List Int):∀ run:List Int,grp s (run++x::rest)=grp s run++[x]::grp s rest
 | []=>by
  cases rest with
  | nil=>rfl
  | cons b l=>show grp s (x::b::l)=_;rw[grp_two,if_pos (by unfold cutQ;simp[hx])];rfl
 | [a]=>by
  show grp s (a::x::rest)=_
  rw[grp_two,if_pos (by unfold cutQ;simp[hx])]
  have:=grp_neg s hx rest []
  rw[List.nil_append]at this
  rw[this]
  rfl
 | a::b::l=>by
  have ih:=grp_neg s hx rest (b::l)
  show grp s (a::b::(l++x::rest))=_
  rw[grp_two,grp_two,show b::(l++x::rest)=b::l++x::rest from rfl,ih]
  obtain⟨p,ps,hp⟩:=grp_ne s b l
  split
  ·rfl
  ·rw[hp];rfl
def addE (c:Bool) (G:List (List Int)) (x:Int):List (List Int):=if c=true then G++[[x]] else G.set (G.length-1) (G.getD (G.length-1) []++[x])
theorem addE_cons (c:Bool) (q:List Int) {G:List (List Int)} (h:G≠[]) (x:Int):addE c (q::G) x=q::addE c G x:=by
 unfold addE
 split
 ·rfl
 ·obtain⟨n,hn⟩:∃ n,G.length=n+1:=⟨G.length-1,by have:=List.length_pos_iff.2 h;omega⟩
  rw[List.length_cons,hn]
  rfl
theorem addE_head (c:Bool) (a:Int) (p:List Int) (ps:List (List Int)) (x:Int) (hp:True):addE c ((a::p)::ps) x=addH a (addE c (p::ps) x):=by
 cases ps with
 | nil=>unfold addE;split <;> rfl
 | cons q ps=>rw[addE_cons c (a::p) (by simp) x,addE_cons c p (by simp) x];rfl
theorem grp_snoc (s:Vc.Sp) (x:Int):∀ (a:Int) (l:List Int),grp s (a::l++[x])=addE (cutQ s ((a::l).getLast (by simp)) x) (grp s (a::l)) x
 | a,[]=>by
  show grp s [a,x]=addE (cutQ s a x) [[a]] x
  rw[grp_two]
  unfold addE
  split <;> rfl
 | a,b::l=>by
  have ih:=grp_snoc s x b l
  show grp s (a::b::(l++[x]))=_
  rw[grp_two,grp_two,show b::(l++[x])=b::l++[x] from rfl,ih]
  have hl:(a::b::l).getLast (by simp)=(b::l).getLast (by simp):=rfl
  rw[hl]
  obtain⟨p,ps,hp⟩:=grp_ne s b l
  rw[hp]
  split
  ·exact(addE_cons _ [a] (G:=p::ps) (by simp) x).symm
  ·exact(addE_head _ a p ps x trivial).symm
theorem num_app (a b:List Int):strOfNums (a++b)=strOfNums a++strOfNums b:=by
 apply ByteArray.ext
 apply Array.toList_inj.1
 rw[ByteArray.data_append,Array.toList_append,strOfNums_data,strOfNums_data,strOfNums_data,List.map_append]
theorem num_ext {xs:List Int} {n:Nat} (h:n<xs.length):(strOfNums xs).extract n (n+1)=strOfNums [xs[n]]:=by
 apply ByteArray.ext
 apply Array.toList_inj.1
 rw[ByteArray.data_extract,Array.toList_extract,strOfNums_data,strOfNums_data]
 rw[List.extract_eq_take_drop,←List.map_drop,←List.map_take]
 congr 1
 rw[List.drop_eq_getElem_cons h,show n+1-n=1 from Z1,List.take_succ_cons,List.take_zero]
theorem cutI_P {s:Vc.Sp} (h:SpOk s) (a b:Nat):cutI s.C s.J a b=cutP s a b:=by
 have h1:=cls_range h a
 have h2:=cls_range h b
 unfold cutI cutP joinB
 rw[show ((cls s.C a).toNat:Int)=cls s.C a from Int.toNat_of_nonneg h1.1,show ((cls s.C b).toNat:Int)=cls s.C b from Int.toNat_of_nonneg h2.1]
 congr 1
 by_cases e:cls s.C a=cls s.C b
 ·simp[e]
 ·simp[e]
theorem map_addE (f:List Int->ByteArray) (c:Bool) (G:List (List Int)) (x:Int) (hf:∀ p,f (p++[x])=f p++f [x]) (hG:G≠[]) :
  (addE c G x).map f=if c=true then G.map f++[f [x]] else (G.map f).set ((G.map f).length-1) ((G.map f).getD ((G.map f).length-1) ByteArray.empty++f [x]):=by
 unfold addE
 split
 ·simp
 ·have hl:G.length-1<G.length:=by have:=List.length_pos_iff.2 hG;omega
  rw[List.map_set,hf,List.length_map]
  congr 2
  rw[List.getD_eq_getElem?_getD,List.getD_eq_getElem?_getD,List.getElem?_map,List.getElem?_eq_getElem hl]
  rfl
theorem pcsB_grp {s:Vc.Sp} (h:SpOk s) {run:List Int} (hb:∀ x∈run,0≤x/\x<256):∀ n,n≤run.length->pcsB s.C s.J (strOfNums run) n=(grp s (run.take n)).map strOfNums
 | 0,_=>rfl
 | n+1,hn=>by
  have ih:=pcsB_grp h hb n (Z1)
  have hlt:n<run.length:=Z1
  unfold pcsB
  rw[num_ext hlt,ih]
  have ht:run.take (n+1)=run.take n++[run[n]]:=by rw[List.take_add_one,List.getElem?_eq_getElem hlt];rfl
  rw[ht]
  cases n with
  | zero=>rw[if_pos (.inl rfl)];rfl
  | succ m =>
   have hm:m<run.length:=Z1
   obtain⟨a,l,hal⟩:∃ a l,run.take (m+1)=a::l:=by
    cases hr:run.take (m+1) with
    | nil=>have:=congrArg List.length hr;rw[List.length_take,List.length_nil]at this;omega
    | cons a l=>exact⟨a,l,rfl⟩
   have hla:(a::l).getLast (by simp)=run[m]:=by
    have:run.take (m+1)=run.take m++[run[m]]:=by rw[List.take_add_one,List.getElem?_eq_getElem hm];rfl
    rw[List.getLast_eq_iff_getLast?_eq_some,←hal,this,List.getLast?_concat]
   have hbm:=hb _ (List.getElem_mem hm)
   have hbn:=hb _ (List.getElem_mem hlt)
   rw[hal,grp_snoc,map_addE strOfNums _ _ _ (fun p=>num_app p _) (by obtain⟨p,ps,e⟩:=grp_ne s a l;rw[e];simp),hla]
   have hc:(m+1=0\/cutI s.C s.J (bt (strOfNums run) ((m+1-1:Nat):Int)).toNat (bt (strOfNums run) ((m+1:Nat):Int)).toNat=true)↔cutQ s run[m] run[m+1]=true:=by
    rw[show m+1-1=m from Z1,str_bt hb hm,str_bt hb hlt,cutI_P h]
    unfold cutQ
    simp only[decide_eq_true_eq]
    constructor
    ·rintro (h|h)
     ·omega
     ·exact .inr (.inr h)
    ·rintro (h|h|h)
     ·omega
     ·omega
     ·exact .inr h
   by_cases hq:cutQ s run[m] run[m+1]=true
   ·rw[if_pos (hc.2 hq),if_pos hq]
   ·rw[if_neg (fun e=>hq (hc.1 e)),if_neg hq]
end Go.Proofs.YtkffhgiiejbnaaaGreat.Rt
namespace Go.Proofs.YtkffhgiiejbnaaaGreat.Rt
open Go.RowKit YtkffhgiiejbnaaaGreatW.PrintWords YtkffhgiiejbnaaaGreatW.PrintLast YtkffhgiiejbnaaaGreatW.PrintMore Rf Aid Mp Hp Tk Vc Ch En Bn
theorem grp_mem (s:Vc.Sp):∀ l:List Int,∀ p∈grp s l,p≠[]/\∀ x∈p,x∈l
 | [],p,h=>by cases h
 | [a],p,h=>by
  rw[show grp s [a]=[[a]] from rfl,List.mem_singleton]at h
  subst h
  exact⟨by simp,fun x hx=>hx⟩
 | a::b::l,p,h=>by
  have ih:=grp_mem s (b::l)
  rw[grp_two]at h
  split at h
  ·rcases List.mem_cons.1 h with h|h
   ·subst h;exact⟨by simp,fun x hx=>by rw[List.mem_singleton.1 hx];exact List.mem_cons_self⟩
   ·exact⟨(ih p h).1,fun x hx=>List.mem_cons_of_mem _ ((ih p h).2 x hx)⟩
  ·obtain⟨q,qs,hq⟩:=grp_ne s b l
   rw[hq]at h ih
   rcases List.mem_cons.1 h with h|h
   ·subst h
    exact⟨by simp,fun x hx=>by
     rcases List.mem_cons.1 hx with hx|hx
     ·rw[hx];exact List.mem_cons_self
     ·exact List.mem_cons_of_mem _ ((ih q List.mem_cons_self).2 x hx)⟩
   ·exact⟨(ih p (List.mem_cons_of_mem _ h)).1,fun x hx=>List.mem_cons_of_mem _ ((ih p (List.mem_cons_of_mem _ h)).2 x hx)⟩
theorem pieceT_bytes {s:Vc.Sp} {p:List Int} (h:p≠[]) (hb:∀ x∈p,0≤x/\x<256):pieceT s p=encS (tabOf s).1 (strOfNums p):=by
 cases p with
 | nil=>exact absurd rfl h
 | cons a l=>rw[pieceT_cons,if_neg (by have:=hb a List.mem_cons_self;omega)]
theorem flat_bytes {s:Vc.Sp} {run:List Int} (hb:∀ x∈run,0≤x/\x<256):(grp s run).flatMap (pieceT s)=((grp s run).map strOfNums).flatMap (encS (tabOf s).1):=by
 rw[List.flatMap_map]
 have:∀ l:List (List Int),(∀ p∈l,p≠[]/\∀ x∈p,x∈run)->l.flatMap (pieceT s)=l.flatMap (fun p=>encS (tabOf s).1 (strOfNums p)):=by
  intro l
  induction l with
  | nil=>intro _;rfl
  | cons p l ih =>
   intro h
   have hp:=h p List.mem_cons_self
   rw[List.flatMap_cons,List.flatMap_cons,pieceT_bytes hp.1 (fun x hx=>hb x (hp.2 x hx)),ih (fun q hq=>h q (List.mem_cons_of_mem _ hq))]
 exact this _ (grp_mem s run)
theorem tok_len (s:Vc.Sp) (xs:List Int):(tokL s xs).length≤xs.length:=by
 rw[←tokP_eq s none 0 xs]
 exact tokP_len s _ _ _ _
theorem tok_neg (s:Vc.Sp) {x:Int} (hx:x<0) (run rest:List Int):tokL s (run++x::rest)=tokL s run++(Mk.hasP s.X x).1.f0::tokL s rest:=by
 rw[tokL_grp,tokL_grp,tokL_grp,grp_neg s hx,List.flatMap_append,List.flatMap_cons,pieceT_cons,if_pos hx]
 rfl
theorem l1_ev {s:Vc.Sp} (hG:Tk.Good (tabOf s).1) {items:List Int} {i:Int} {P:List ByteArray} (hP:∀ p∈P,p.size≤100000) (hPl:P.length≤100000) {r:List Int} :
  ∀ (d q:Nat) (out:List Int),P.length-q=d->q≤P.length->out.length+((P.drop q).flatMap (encS (tabOf s).1)).length≤1000000 →
   Ev (fun k=>ligatureref10_Vocab_Encode.l1 k items (out++(P.drop q).flatMap (encS (tabOf s).1)) i P (P.length:Int) (bL (tabOf s).1) (mL (tabOf s).1) s.C s.J s.X) r →
   Ev (fun k=>ligatureref10_Vocab_Encode.l1 k items out i P (q:Int) (bL (tabOf s).1) (mL (tabOf s).1) s.C s.J s.X) r
 | 0,q,out,h1,h2,h3,H=>by
  obtain rfl:q=P.length:=Z1
  rw[List.drop_eq_nil_of_le (Nat.le_refl _),List.flatMap_nil,List.append_nil]at H
  exact H
 | d+1,q,out,h1,h2,h3,H=>by
  have hlt:q<P.length:=Z1
  have hw:wrap64 ((q:Int)+1)=((q+1:Nat):Int):=(w64 (Z1) (Z1)).trans (Z1)
  have hrd:rdOf ByteArray.empty P (q:Int)=P[q]:=rdOf_at _ _ hlt
  rw[List.drop_eq_getElem_cons hlt,List.flatMap_cons,List.length_append]at h3
  rw[List.drop_eq_getElem_cons hlt,List.flatMap_cons,←List.append_assoc]at H
  have ih:=l1_ev hG (items:=items) (i:=i) hP hPl (r:=r) d (q+1) (out++encS (tabOf s).1 P[q]) (Z1) (Z1) (by rw[List.length_append];omega) H
  refine Ev.step (g':=fun k=>(ligatureref05_All.f k (bL (tabOf s).1) (mL (tabOf s).1) P[q]).bind fun t=>if out.length+t.length<17592186044416 then ligatureref10_Vocab_Encode.l1 k items (out++t) i P ((q+1:Nat):Int) (bL (tabOf s).1) (mL (tabOf s).1) s.C s.J s.X else none) (fun k=>?_) (Ev.bind (h:=fun k t=>if out.length+t.length<17592186044416 then ligatureref10_Vocab_Encode.l1 k items (out++t) i P ((q+1:Nat):Int) (bL (tabOf s).1) (mL (tabOf s).1) s.C s.J s.X else none) (all_ev hG (hP _ (List.getElem_mem hlt))) ?_)
  ·simp only[ligatureref10_Vocab_Encode.l1]
   rw[if_pos (Z1),if_pos (Z1),hrd,hw]
  ·rw[show (fun k=>if out.length+(encS (tabOf s).1 P[q]).length<17592186044416 then ligatureref10_Vocab_Encode.l1 k items (out++encS (tabOf s).1 P[q]) i P ((q+1:Nat):Int) (bL (tabOf s).1) (mL (tabOf s).1) s.C s.J s.X else none)=fun k=>ligatureref10_Vocab_Encode.l1 k items (out++encS (tabOf s).1 P[q]) i P ((q+1:Nat):Int) (bL (tabOf s).1) (mL (tabOf s).1) s.C s.J s.X from funext fun k=>if_pos (Z1)]
   exact ih
theorem pcs_ev {s:Vc.Sp} (hok:VOk s) {run:List Int} (hb:∀ x∈run,0≤x/\x<256) (hl:run.length≤100000):Ev (fun k=>ligatureref08_Table_Pieces.f k s.C s.J (strOfNums run)) ((grp s run).map strOfNums):=by
 refine⟨0,fun k _=>?_⟩
 have h1:=hok.sp.nC
 have h2:=hok.sp.nJ
 have h:=pcsB_grp hok.sp hb run.length (Nat.le_refl _)
 rw[List.take_length]at h
 show ligatureref08_Table_Pieces.f k s.C s.J (strOfNums run)=_
 unfold ligatureref08_Table_Pieces.f
 rw[if_pos ⟨Z1,Z1,by rw[str_size];omega⟩,str_size,h]
theorem run_ev {s:Vc.Sp} (hok:VOk s) {items:List Int} {i:Int} {out run:List Int} (hb:∀ x∈run,0≤x/\x<256) (hl:run.length≤100000) (ho:out.length≤100000) {r:List Int}
  (H:Ev (fun k=>ligatureref10_Vocab_Encode.l1 k items (out++tokL s run) i ((grp s run).map strOfNums) ((((grp s run).map strOfNums).length:Nat):Int) (bL (tabOf s).1) (mL (tabOf s).1) s.C s.J s.X) r) :
  Ev (fun k=>ligatureref10_Vocab_Encode.j1 k items out run i false (bL (tabOf s).1) (mL (tabOf s).1) s.C s.J s.X) r:=by
 have hp:=pcsB_grp hok.sp hb run.length (Nat.le_refl _)
 rw[List.take_length]at hp
 have hsz:∀ p∈(grp s run).map strOfNums,p.size≤100000:=fun p hm=>by
  rw[←hp]at hm
  exact Nat.le_trans (pcsB_sz _ _ _ _ p hm) hl
 have hpl:((grp s run).map strOfNums).length≤100000:=by
  rw[←hp]
  exact Nat.le_trans (pcsB_len _ _ _ _).1 hl
 have hfl:((grp s run).map strOfNums).flatMap (encS (tabOf s).1)=tokL s run:=by rw[tokL_grp,flat_bytes hb]
 have htl:=tok_len s run
 have h1:=l1_ev (good_of s) (items:=items) (i:=i) hsz hpl (r:=r) ((grp s run).map strOfNums).length 0 out (Z1) (Z1) (by rw[List.drop_zero,hfl];omega) (by rw[List.drop_zero,hfl];exact H)
 refine Ev.step (g':=fun k=>(ligatureref08_Table_Pieces.f k s.C s.J (strOfNums run)).bind fun t=>ligatureref10_Vocab_Encode.l1 k items out i t 0 (bL (tabOf s).1) (mL (tabOf s).1) s.C s.J s.X) (fun k=>?_) (Ev.bind (h:=fun k t=>ligatureref10_Vocab_Encode.l1 k items out i t 0 (bL (tabOf s).1) (mL (tabOf s).1) s.C s.J s.X) (pcs_ev hok hb hl) h1)
 simp only[ligatureref10_Vocab_Encode.j1]
 rw[if_neg (Z32)]
theorem rdX {X:List S93} {m:Int} (h0:m<0) (h1:-(X.length:Int)≤m):(Mk.hasP X m).1=rd_T93 X (-1-m):=by
 unfold Mk.hasP
 rw[if_pos ⟨h0,h1⟩]
theorem enc_run {s:Vc.Sp} (hok:VOk s) {items:List Int} (hri:∀ x∈items,rightP s x=true) (hl:items.length≤5000) :
  ∀ (d i:Nat) (out run:List Int),items.length-i=d->i≤items.length->(∀ x∈run,0≤x/\x<256)->out.length+run.length≤i →
   Ev (fun k=>ligatureref10_Vocab_Encode.l0 k items out run (i:Int) (bL (tabOf s).1) (mL (tabOf s).1) s.C s.J s.X) (out++tokL s (run++items.drop i))
 | 0,i,out,run,h1,h2,hb,hle=>by
  obtain rfl:i=items.length:=Z1
  have hw:wrap64 ((items.length:Int)+1)=((items.length:Int)+1):=w64 (Z1) (Z1)
  rw[List.drop_eq_nil_of_le (Nat.le_refl _),List.append_nil]
  refine Ev.step (g':=fun k=>ligatureref10_Vocab_Encode.j1 k items out run (items.length:Int) false (bL (tabOf s).1) (mL (tabOf s).1) s.C s.J s.X) (fun k=>?_) (run_ev hok hb (Z1) (Z1) (Ev.step (g':=fun k=>ligatureref10_Vocab_Encode.l0 k items (out++tokL s run) [] ((items.length:Int)+1) (bL (tabOf s).1) (mL (tabOf s).1) s.C s.J s.X) (fun k=>?_) (Ev.step (g':=fun k=>some (out++tokL s run)) (fun k=>?_) Ev.done)))
  ·simp only[ligatureref10_Vocab_Encode.l0]
   rw[if_pos (Z1),if_neg (Z1)]
  ·simp only[ligatureref10_Vocab_Encode.l1]
   rw[if_neg (Z1),Option.bind_some,if_neg (Z1),hw]
  ·simp only[ligatureref10_Vocab_Encode.l0]
   rw[if_neg (Z1)]
 | d+1,i,out,run,h1,h2,hb,hle=>by
  have hlt:i<items.length:=Z1
  have hx:=rdI hlt
  have hw:wrap64 ((i:Int)+1)=((i+1:Nat):Int):=(w64 (Z1) (Z1)).trans (Z1)
  have hdr:items.drop i=items[i]::items.drop (i+1):=List.drop_eq_getElem_cons hlt
  have hr:=hri _ (List.getElem_mem hlt)
  rw[hdr]
  by_cases h0:0≤items[i]
  ·have hby:=rightP_byte hr h0
   have hmod:items[i] % 256=items[i]:=Int.emod_eq_of_lt h0 (Z1)
   have ih:=enc_run hok hri hl d (i+1) out (run++[items[i]]) (Z1) (Z1) (fun x hm=>by
    rcases List.mem_append.1 hm with hm|hm
    ·exact hb x hm
    ·rw[List.mem_singleton.1 hm];omega) (by rw[List.length_append];simp;omega)
   rw[List.append_assoc]at ih
   refine Ev.step (g':=fun k=>ligatureref10_Vocab_Encode.j1 k items out run (i:Int) true (bL (tabOf s).1) (mL (tabOf s).1) s.C s.J s.X) (fun k=>?_) (Ev.step (g':=fun k=>ligatureref10_Vocab_Encode.l0 k items out (run++[items[i]]) ((i+1:Nat):Int) (bL (tabOf s).1) (mL (tabOf s).1) s.C s.J s.X) (fun k=>?_) ih)
   ·simp only[ligatureref10_Vocab_Encode.l0]
    rw[if_pos (Z1),if_pos (Z1),if_pos (Z1),hx,decide_eq_true (Z1)]
   ·simp only[ligatureref10_Vocab_Encode.j1]
    rw[if_pos trivial,if_pos (Z1),if_pos (Z1),if_pos (Z1),hx,hmod,hw]
  ·have hneg:items[i]<0:=by omega
   have hge:-(s.X.length:Int)≤items[i]:=by
    unfold rightP at hr
    simp at hr
    omega
   have hXl:=hok.sp.nX
   have hwm:wrap64 (-1-items[i])=-1-items[i]:=w64 (Z1) (Z1)
   have htl:=tok_len s run
   have ih:=enc_run hok hri hl d (i+1) (out++tokL s run++[(rd_T93 s.X (-1-items[i])).f0]) [] (Z1) (Z1) (fun x hm=>by cases hm) (by rw[List.length_append,List.length_append];simp;omega)
   rw[List.nil_append]at ih
   rw[tok_neg s hneg,rdX hneg hge,show out++(tokL s run++(rd_T93 s.X (-1-items[i])).f0::tokL s (items.drop (i+1)))=out++tokL s run++[(rd_T93 s.X (-1-items[i])).f0]++tokL s (items.drop (i+1)) by simp]
   refine Ev.step (g':=fun k=>ligatureref10_Vocab_Encode.j1 k items out run (i:Int) false (bL (tabOf s).1) (mL (tabOf s).1) s.C s.J s.X) (fun k=>?_) (run_ev hok hb (Z1) (Z1) (Ev.step (g':=fun k=>ligatureref10_Vocab_Encode.l0 k items (out++tokL s run++[(rd_T93 s.X (-1-items[i])).f0]) [] ((i+1:Nat):Int) (bL (tabOf s).1) (mL (tabOf s).1) s.C s.J s.X) (fun k=>?_) ih))
   ·simp only[ligatureref10_Vocab_Encode.l0]
    rw[if_pos (Z1),if_pos (Z1),if_pos (Z1),hx,decide_eq_false (Z1)]
   ·simp only[ligatureref10_Vocab_Encode.l1]
    rw[if_neg (Z1),Option.bind_some,if_pos (Z1),if_pos (Z1),hx,hwm,if_pos (Z1),if_pos (Z1),if_pos (by rw[List.length_append];omega),hw]
theorem enc_some {s:Vc.Sp} (hok:VOk s) {items:List Int} (hri:∀ x∈items,rightP s x=true) (hl:items.length≤5000):∃ k,ligatureref10_Vocab_Encode.f k (bL (tabOf s).1) (mL (tabOf s).1) s.C s.J s.X items=some (tokL s items):=by
 obtain⟨k0,h⟩:=enc_run hok hri hl items.length 0 [] [] (Z1) (Z1) (fun x h=>by cases h) (by simp)
 exact⟨k0,h k0 (Nat.le_refl _)⟩
end Go.Proofs.YtkffhgiiejbnaaaGreat.Rt
