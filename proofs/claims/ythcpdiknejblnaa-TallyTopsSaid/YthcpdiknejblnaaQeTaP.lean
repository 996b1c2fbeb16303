import Derived.Test.YthcpdiknejblnaaQeTaA
set_option linter.unusedVariables false
set_option linter.unusedSimpArgs false
namespace Go.Proofs.Ythcpdiknejblnaa.Ta
open Go Go.MapKept Go.RowKit Go.ChangeMaps Mp
set_option linter.unusedSectionVars false
variable {κ:Type} [DecidableEq κ]
def vL (l:List (κ × Int)):List (κ × Value):=l.map (fun p=>(p.1,.int .i64 p.2))
def getN:List (κ × Int)->κ->Int
 | [],_=>0
 | p::l,k=>if p.1=k then p.2 else getN l k
theorem getN_cons (p:κ × Int) (l:List (κ × Int)) (k:κ):getN (p::l) k=if p.1=k then p.2 else getN l k:=rfl
def hasK (l:List (κ × Int)) (k:κ):Prop:=k∈l.map (·.1)
instance (l:List (κ × Int)) (k:κ):Decidable (hasK l k):=inferInstanceAs (Decidable (k∈l.map (·.1)))
theorem hasK_cons (p:κ × Int) (l:List (κ × Int)) (k:κ):hasK (p::l) k↔p.1=k\/hasK l k:=by
 unfold hasK
 rw[List.map_cons,List.mem_cons]
 exact⟨fun q=>q.imp Eq.symm id,fun q=>q.imp Eq.symm id⟩
def bump (l:List (κ × Int)) (k:κ) (n:Int):List (κ × Int):=if hasK l k then l.map (fun p=>if p.1=k then (p.1,p.2+n) else p) else l++[(k,n)]
theorem get_vL (l:List (κ × Int)) (k:κ):get? (vL l) k=if hasK l k then some (.int .i64 (getN l k)) else none:=by
 induction l with
 | nil=>rfl
 | cons p l ih =>
  show get? ((p.1,Value.int .i64 p.2)::vL l) k=_
  rw[get?_cons,ih]
  rw[getN_cons]
  by_cases h:p.1=k
  ·rw[if_pos h,if_pos h,if_pos ((hasK_cons p l k).2 (.inl h))]
  ·rw[if_neg h,if_neg h]
   by_cases h2:hasK l k
   ·rw[if_pos h2,if_pos ((hasK_cons p l k).2 (.inr h2))]
   ·rw[if_neg h2,if_neg (fun q=>((hasK_cons p l k).1 q).elim h h2)]
theorem getN_none {l:List (κ × Int)} {k:κ} (h:¬ hasK l k):getN l k=0:=by
 induction l with
 | nil=>rfl
 | cons p l ih =>
  unfold hasK at h
  simp only[List.map_cons,List.mem_cons,not_or]at h
  unfold getN
  rw[if_neg (Ne.symm h.1)]
  exact ih h.2
theorem get_getD (l:List (κ × Int)) (k:κ):(get? (vL l) k).getD (.int .i64 0)=.int .i64 (getN l k):=by
 rw[get_vL]
 by_cases h:hasK l k
 ·rw[if_pos h];rfl
 ·rw[if_neg h,getN_none h];rfl
theorem keys_vL (l:List (κ × Int)):(vL l).map (·.1)=l.map (·.1):=by
 unfold vL
 rw[List.map_map]
 rfl
theorem getN_mem {l:List (κ × Int)} (hn:(l.map (·.1)).Nodup) {p:κ × Int} (hp:p∈l):getN l p.1=p.2:=by
 induction l with
 | nil=>cases hp
 | cons q l ih =>
  simp only[List.map_cons,List.nodup_cons]at hn
  unfold getN
  rcases List.mem_cons.1 hp with rfl|h
  ·rw[if_pos rfl]
  ·rw[if_neg (fun e=>hn.1 (by rw[e];exact List.mem_map.2 ⟨p,h,rfl⟩))]
   exact ih hn.2 h
theorem put_vL {l:List (κ × Int)} (hn:(l.map (·.1)).Nodup) (k:κ) (n:Int):put (vL l) k (.int .i64 (getN l k+n))=vL (bump l k n):=by
 unfold put bump
 rw[get_vL]
 by_cases h:hasK l k
 ·rw[if_pos h,if_pos h,if_pos (show (some (Value.int .i64 (getN l k))).isSome=true from rfl)]
  unfold vL
  rw[List.map_map,List.map_map]
  refine List.map_congr_left fun p hp=>?_
  simp only[Function.comp_apply]
  by_cases e:p.1=k
  ·rw[if_pos e,if_pos e,←e,getN_mem hn hp]
  ·rw[if_neg e,if_neg e]
 ·rw[if_neg h,if_neg h,if_neg (by simp),getN_none h]
  unfold vL
  rw[List.map_append,Int.zero_add]
  rfl
theorem keys_bump (l:List (κ × Int)) (k:κ) (n:Int):(bump l k n).map (·.1)=if hasK l k then l.map (·.1) else l.map (·.1)++[k]:=by
 unfold bump
 by_cases h:hasK l k
 ·rw[if_pos h,if_pos h,List.map_map]
  refine List.map_congr_left fun p hp=>?_
  simp only[Function.comp_apply]
  split <;> rfl
 ·rw[if_neg h,if_neg h,List.map_append]
  rfl
theorem nodup_bump {l:List (κ × Int)} (hn:(l.map (·.1)).Nodup) (k:κ) (n:Int):((bump l k n).map (·.1)).Nodup:=by
 rw[keys_bump]
 by_cases h:hasK l k
 ·rw[if_pos h];exact hn
 ·rw[if_neg h,List.nodup_append]
  refine⟨hn,by simp,fun x hx y hy=>?_⟩
  rw[List.mem_singleton.1 hy]
  rintro rfl
  exact h hx
theorem getN_map {l:List (κ × Int)} {k:κ} {n:Int} (j:κ):getN (l.map (fun p=>if p.1=k then (p.1,p.2+n) else p)) j=getN l j+if j=k/\hasK l k then n else 0:=by
 induction l with
 | nil=>simp[getN,hasK]
 | cons p l ih =>
  rw[List.map_cons]
  have hh:hasK (p::l) k↔p.1=k\/hasK l k:=by
   unfold hasK
   rw[List.map_cons,List.mem_cons]
   exact⟨fun q=>q.imp Eq.symm id,fun q=>q.imp Eq.symm id⟩
  by_cases e:p.1=k
  ·rw[if_pos e]
   by_cases ej:p.1=j
   ·have:j=k:=by rw[←ej,e]
    rw[if_pos ⟨this,hh.2 (.inl e)⟩]
    unfold getN
    rw[if_pos ej,if_pos ej]
   ·have:j≠k:=fun q=>ej (by rw[e,q])
    rw[if_neg (fun q=>this q.1)]
    unfold getN
    rw[if_neg ej,if_neg ej,ih,if_neg (fun q=>this q.1)]
  ·rw[if_neg e]
   unfold getN
   by_cases ej:p.1=j
   ·rw[if_pos ej,if_pos ej,if_neg (fun q=>e (by rw[ej,q.1]))]
    omega
   ·rw[if_neg ej,if_neg ej,ih]
    congr 1
    by_cases hk:j=k/\hasK l k
    ·rw[if_pos hk,if_pos ⟨hk.1,hh.2 (.inr hk.2)⟩]
    ·rw[if_neg hk,if_neg (fun q=>hk ⟨q.1,(hh.1 q.2).resolve_left e⟩)]
theorem getN_snoc (l:List (κ × Int)) (k j:κ) (n:Int) (h:¬ hasK l k):getN (l++[(k,n)]) j=getN l j+if j=k then n else 0:=by
 induction l with
 | nil =>
  show (if k=j then n else 0)=0+_
  by_cases e:j=k
  ·rw[if_pos e,if_pos e.symm];omega
  ·rw[if_neg e,if_neg (Ne.symm e)];rfl
 | cons p l ih =>
  unfold hasK at h
  simp only[List.map_cons,List.mem_cons,not_or]at h
  rw[List.cons_append]
  unfold getN
  by_cases e:p.1=j
  ·rw[if_pos e,if_pos e,if_neg (fun q=>h.1 (by rw[e,q]))]
   omega
  ·rw[if_neg e,if_neg e,ih h.2]
theorem getN_bump (l:List (κ × Int)) (k j:κ) (n:Int):getN (bump l k n) j=getN l j+if j=k then n else 0:=by
 unfold bump
 by_cases h:hasK l k
 ·rw[if_pos h,getN_map]
  congr 1
  by_cases e:j=k
  ·rw[if_pos ⟨e,h⟩,if_pos e]
  ·rw[if_neg (fun q=>e q.1),if_neg e]
 ·rw[if_neg h,getN_snoc l k j n h]
def sumN (l:List (κ × Int)):Int:=(l.map (·.2)).sum
theorem sumN_cons (p:κ × Int) (l:List (κ × Int)):sumN (p::l)=p.2+sumN l:=by simp[sumN]
theorem sumN_app (a b:List (κ × Int)):sumN (a++b)=sumN a+sumN b:=by
 induction a with
 | nil=>simp[sumN]
 | cons p a ih=>rw[List.cons_append,sumN_cons,sumN_cons,ih];omega
theorem sumN_map {l:List (κ × Int)} (hn:(l.map (·.1)).Nodup) (k:κ) (n:Int):sumN (l.map (fun p=>if p.1=k then (p.1,p.2+n) else p))=sumN l+if hasK l k then n else 0:=by
 induction l with
 | nil=>simp[sumN,hasK]
 | cons p l ih =>
  simp only[List.map_cons,List.nodup_cons]at hn
  rw[List.map_cons,sumN_cons,sumN_cons,ih hn.2]
  have hh:hasK (p::l) k↔p.1=k\/hasK l k:=by
   unfold hasK
   rw[List.map_cons,List.mem_cons]
   exact⟨fun q=>q.imp Eq.symm id,fun q=>q.imp Eq.symm id⟩
  by_cases e:p.1=k
  ·rw[if_pos e,if_pos (hh.2 (.inl e)),if_neg (fun q=>hn.1 (by rw[e];exact q))]
   simp only
   omega
  ·rw[if_neg e]
   by_cases hk:hasK l k
   ·rw[if_pos hk,if_pos (hh.2 (.inr hk))];omega
   ·rw[if_neg hk,if_neg (fun q=>hk ((hh.1 q).resolve_left e))];omega
theorem sumN_bump {l:List (κ × Int)} (hn:(l.map (·.1)).Nodup) (k:κ) (n:Int):sumN (bump l k n)=sumN l+n:=by
 unfold bump
 by_cases h:hasK l k
 ·rw[if_pos h,sumN_map hn,if_pos h]
 ·rw[if_neg h,sumN_app]
  simp[sumN]
structure Fine (l:List (κ × Int)) (m:Int):Prop where
 nd:(l.map (·.1)).Nodup
 one:∀ p∈l,1≤p.2
 sum:sumN l=m
theorem Fine.nil:Fine ([]:List (κ × Int)) 0:=⟨by simp,by simp,rfl⟩
theorem sum_nonneg:∀ {l:List (κ × Int)},(∀ p∈l,1≤p.2)->(l.length:Int)≤sumN l
 | [],_=>by simp[sumN]
 | p::l,h=>by
  have h1:=h p (by simp)
  have h2:=sum_nonneg (l:=l) (fun q hq=>h q (by simp[hq]))
  rw[sumN_cons,List.length_cons]
  omega
theorem mem_le:∀ {l:List (κ × Int)},(∀ p∈l,1≤p.2)->∀ p∈l,p.2≤sumN l
 | [],_,p,hp=>by cases hp
 | q::l,h,p,hp=>by
  have h1:=h q (by simp)
  have h3:=sum_nonneg (l:=l) (fun q hq=>h q (by simp[hq]))
  rw[sumN_cons]
  rcases List.mem_cons.1 hp with rfl|hp
  ·omega
  ·have h2:=mem_le (l:=l) (fun q hq=>h q (by simp[hq])) p hp
   omega
theorem Fine.m0 {l:List (κ × Int)} {m:Int} (h:Fine l m):(l.length:Int)≤m:=by rw[←h.sum];exact sum_nonneg h.one
theorem Fine.get {l:List (κ × Int)} {m:Int} (h:Fine l m) (k:κ):0≤getN l k/\getN l k≤m:=by
 have h0:=h.m0
 by_cases hk:hasK l k
 ·obtain⟨p,hp,e⟩:=List.mem_map.1 hk
  rw[←e,getN_mem h.nd hp]
  have h1:=h.one p hp
  have h2:=mem_le h.one p hp
  rw[h.sum]at h2
  omega
 ·rw[getN_none hk];omega
theorem Fine.bump {l:List (κ × Int)} {m:Int} (h:Fine l m) (k:κ) {n:Int} (hn:1≤n):Fine (bump l k n) (m+n):=by
 refine⟨nodup_bump h.nd k n,fun p hp=>?_,by rw[sumN_bump h.nd,h.sum]⟩
 unfold Ta.bump at hp
 by_cases hk:hasK l k
 ·rw[if_pos hk]at hp
  obtain⟨q,hq,e⟩:=List.mem_map.1 hp
  have h1:=h.one q hq
  by_cases hqk:q.1=k
  ·rw[if_pos hqk]at e;rw[←e];simp only;omega
  ·rw[if_neg hqk]at e;rw[←e];exact h1
 ·rw[if_neg hk]at hp
  rcases List.mem_append.1 hp with hp|hp
  ·exact h.one p hp
  ·rw[List.mem_singleton.1 hp];exact hn
def addI (l:List (Int × Int)) (ids:List Int):List (Int × Int):=ids.foldl (fun l x=>bump l x 1) l
def twos (ids:List Int):List (Int × Int):=ids.zip (ids.drop 1)
def addT (l:List ((Int × Int) × Int)) (ts:List (Int × Int)):List ((Int × Int) × Int):=ts.foldl (fun l x=>bump l x 1) l
def addP (l:List ((Int × Int) × Int)) (ids:List Int):List ((Int × Int) × Int):=addT l (twos ids)
theorem twos_next {ids:List Int} {i:Nat} {x y:Int} (hx:ids[i]?=some x) (hy:ids[i+1]?=some y):twos (ids.take (i+2))=twos (ids.take (i+1))++[(x,y)]:=by
 unfold twos
 obtain⟨h1,rfl⟩:=List.getElem?_eq_some_iff.1 hx
 obtain⟨h2,rfl⟩:=List.getElem?_eq_some_iff.1 hy
 apply List.ext_getElem?
 intro j
 have hl:(ids.take (i+1)).length=i+1:=by rw[List.length_take];omega
 have hz:((ids.take (i+1)).zip ((ids.take (i+1)).drop 1)).length=i:=by rw[List.length_zip,List.length_drop,hl];omega
 rcases Nat.lt_trichotomy j i with h|h|h
 ·rw[List.getElem?_append_left (Z0),(List.getElem?_zip_eq_some (z:=(ids[j]'(Z0),ids[1+j]'(Z0)))).2 ⟨?_,?_⟩,(List.getElem?_zip_eq_some (z:=(ids[j]'(Z0),ids[1+j]'(Z0)))).2 ⟨?_,?_⟩]
  ·rw[List.getElem?_take_of_lt (Z0),List.getElem?_eq_getElem]
  ·rw[List.getElem?_drop,List.getElem?_take_of_lt (Z0),List.getElem?_eq_getElem]
  ·rw[List.getElem?_take_of_lt (Z0),List.getElem?_eq_getElem]
  ·rw[List.getElem?_drop,List.getElem?_take_of_lt (Z0),List.getElem?_eq_getElem]
 ·subst h
  rw[List.getElem?_append_right (Z0),hz,Nat.sub_self]
  rw[(List.getElem?_zip_eq_some (z:=(ids[j],ids[j+1]))).2 ⟨?_,?_⟩]
  ·rfl
  ·rw[List.getElem?_take_of_lt (Z0),List.getElem?_eq_getElem]
  ·rw[List.getElem?_drop,List.getElem?_take_of_lt (Z0),Nat.add_comm,List.getElem?_eq_getElem]
 ·rw[List.getElem?_eq_none (by rw[List.length_zip,List.length_drop,List.length_take];omega),List.getElem?_eq_none (by rw[List.length_append,hz,List.length_singleton];omega)]
theorem addI_next (l:List (Int × Int)) {ids:List Int} {i:Nat} {x:Int} (hx:ids[i]?=some x):addI l (ids.take (i+1))=bump (addI l (ids.take i)) x 1:=by
 unfold addI
 rw[List.take_add_one,hx,List.foldl_append]
 rfl
theorem addT_app (l:List ((Int × Int) × Int)) (a b:List (Int × Int)):addT l (a++b)=addT (addT l a) b:=by unfold addT;rw[List.foldl_append]
theorem addP_next (l:List ((Int × Int) × Int)) {ids:List Int} {i:Nat} {x y:Int} (hx:ids[i]?=some x) (hy:ids[i+1]?=some y):addP l (ids.take (i+2))=bump (addP l (ids.take (i+1))) (x,y) 1:=by
 unfold addP
 rw[twos_next hx hy,addT_app]
 rfl
theorem addP_one (l:List ((Int × Int) × Int)) (ids:List Int):addP l (ids.take 1)=l:=by
 unfold addP
 cases ids with
 | nil=>rfl
 | cons a r=>rfl
theorem getN_addI:∀ (ids:List Int) (l:List (Int × Int)) (a:Int),getN (addI l ids) a=getN l a+(ids.count a:Int)
 | [],l,a=>Z16
 | x::ids,l,a=>by
  show getN (addI (bump l x 1) ids) a=_
  rw[getN_addI ids,getN_bump,List.count_cons]
  by_cases h:a=x
  ·rw[if_pos h,if_pos (by simpa using h.symm)];omega
  ·rw[if_neg h,if_neg (by simpa using Ne.symm h)];omega
theorem getN_addT:∀ (ts:List (Int × Int)) (l:List ((Int × Int) × Int)) (a:Int × Int),getN (addT l ts) a=getN l a+(ts.count a:Int)
 | [],l,a=>Z16
 | x::ids,l,a=>by
  show getN (addT (bump l x 1) ids) a=_
  rw[getN_addT ids,getN_bump,List.count_cons]
  by_cases h:a=x
  ·rw[if_pos h,if_pos (by simpa using h.symm)];omega
  ·rw[if_neg h,if_neg (by simpa using Ne.symm h)];omega
theorem fine_addI:∀ (ids:List Int) {l:List (Int × Int)} {m:Int},Fine l m->Fine (addI l ids) (m+ids.length)
 | [],l,m,h=>by show Fine l _;simpa using h
 | x::ids,l,m,h=>by
  have:=fine_addI ids (h.bump x (Int.le_refl 1))
  rw[show m+((x::ids).length:Int)=m+1+(ids.length:Int) by rw[List.length_cons];omega]
  exact this
theorem fine_addT:∀ (ts:List (Int × Int)) {l:List ((Int × Int) × Int)} {m:Int},Fine l m->Fine (addT l ts) (m+ts.length)
 | [],l,m,h=>by show Fine l _;simpa using h
 | x::ids,l,m,h=>by
  have:=fine_addT ids (h.bump x (Int.le_refl 1))
  rw[show m+((x::ids).length:Int)=m+1+(ids.length:Int) by rw[List.length_cons];omega]
  exact this
theorem twos_len (ids:List Int):(twos ids).length=ids.length-1:=by
 unfold twos
 rw[List.length_zip,List.length_drop]
 omega
theorem fine_addP (ids:List Int) {l:List ((Int × Int) × Int)} {m:Int} (h:Fine l m):Fine (addP l ids) (m+((ids.length-1:Nat):Int)):=by
 have:=fine_addT (twos ids) h
 rw[twos_len]at this
 exact this
end Go.Proofs.Ythcpdiknejblnaa.Ta
