import Derived.Test.YtkffhgiiejbnaaaGreatQTokB
set_option linter.unusedVariables false
set_option linter.unusedSimpArgs false
namespace Go.Proofs.YtkffhgiiejbnaaaGreat.Tk
open Go.RowKit YtkffhgiiejbnaaaGreatW.PrintWords Rf Aid Mp Hp
def byt (E:List Ent) (a:Int):ByteArray:=(E[a.toNat]?.map (·.f0)).getD ⟨#[]⟩
def hasE (E:List Ent) (a:Int):Bool:=decide (0≤a/\a<(E.length:Int))
def sumB (E:List Ent) (a b:Int):ByteArray:=byt E a++byt E b
def addC (E:List Ent) (a b:Int):Int :=
 if hasE E a=true/\hasE E b=true then (if 64<(sumB E a b).size then 3 else if 1000≤E.length then 5 else if (idxB E (sumB E a b)).isSome then 10 else 0) else 4
def newE (E:List Ent) (a b:Int):Ent:=⟨sumB E a b,a,b⟩
structure Good (E:List Ent):Prop where
 many:256≤E.length/\E.length≤1000
 small:∀ x∈E,1≤x.f0.size/\x.f0.size≤64
 par:∀ (i:Nat) (h:i<E.length),256≤i->0≤(E[i]).f1/\(E[i]).f1<(i:Int)/\0≤(E[i]).f2/\(E[i]).f2<(i:Int)/\(E[i]).f0=sumB E (E[i]).f1 (E[i]).f2
 nodup:(E.map (·.f0)).Nodup
 first:E.take 256=byteL 256
theorem byt_app {E:List Ent} {a:Int} (x:Ent) (h0:0≤a) (h1:a<(E.length:Int)):byt (E++[x]) a=byt E a:=by
 unfold byt;rw[List.getElem?_append_left (Z1)]
theorem byt_at {E:List Ent} {i:Nat} (h:i<E.length):byt E (i:Int)=(E[i]).f0:=by
 unfold byt;rw[Int.toNat_natCast,List.getElem?_eq_getElem h];rfl
theorem idxB_none {E:List Ent} {s:ByteArray} (h:idxB E s=none):∀ x∈E,x.f0≠s:=by
 unfold idxB at h
 rw[List.findIdx?_eq_none_iff]at h
 intro x hx e
 have:=h x hx
 simp[e]at this
theorem addC_ok {E:List Ent} {a b:Int} (h:addC E a b=0):(0≤a/\a<(E.length:Int))/\(0≤b/\b<(E.length:Int))/\(sumB E a b).size≤64/\E.length<1000/\idxB E (sumB E a b)=none:=by
 unfold addC at h
 by_cases h1:hasE E a=true/\hasE E b=true
 ·rw[if_pos h1]at h
  have ha:0≤a/\a<(E.length:Int):=of_decide_eq_true h1.1
  have hb:0≤b/\b<(E.length:Int):=of_decide_eq_true h1.2
  by_cases h2:64<(sumB E a b).size
  ·rw[if_pos h2]at h;omega
  ·rw[if_neg h2]at h
   by_cases h3:1000≤E.length
   ·rw[if_pos h3]at h;omega
   ·rw[if_neg h3]at h
    cases h4:idxB E (sumB E a b) with
    | none=>exact⟨ha,hb,Z1,Z1,rfl⟩
    | some i=>rw[h4]at h;simp at h
 ·rw[if_neg h1]at h;omega
theorem sumB_size (E:List Ent) (a b:Int):(sumB E a b).size=(byt E a).size+(byt E b).size:=by unfold sumB;exact ByteArray.size_append
theorem Good.begin_:Good (byteL 256):=by
 refine⟨by rw[byteL_len];omega,fun x hx=>?_,fun i h hi=>?_,?_,?_⟩
 ·obtain⟨i,_,rfl⟩:=List.mem_map.1 hx
  exact⟨Nat.le_refl 1,(Z31:1≤64)⟩
 ·rw[byteL_len]at h;omega
 ·unfold byteL
  rw[List.map_map]
  show List.Pairwise _ _
  rw[List.pairwise_map]
  exact List.Pairwise.imp_of_mem (fun {x y} hx hy hne e=>hne (byteE_inj (List.mem_range.1 hx) (List.mem_range.1 hy) e)) List.nodup_range
 ·have:=byteL_len 256;rw[List.take_of_length_le (Z1)]
theorem Good.add {E:List Ent} {a b:Int} (h:Good E) (hc:addC E a b=0):Good (E++[newE E a b]):=by
 obtain⟨ha,hb,hs,hl,hi⟩:=addC_ok hc
 have hpos:∀ c,0≤c->c<(E.length:Int)->1≤(byt E c).size:=fun c h0 h1=>by
  obtain⟨n,rfl⟩:=Int.eq_ofNat_of_zero_le h0
  have hn:n<E.length:=Z1
  rw[byt_at hn]
  exact(h.small _ (List.getElem_mem hn)).1
 refine⟨by rw[List.length_append];have:=h.many;simp;omega,fun x hx=>?_,fun i hi' h256=>?_,?_,?_⟩
 ·rcases List.mem_append.1 hx with hx|hx
  ·exact h.small x hx
  ·have:x=newE E a b:=by simpa using hx
   subst this
   have h1:=hpos a ha.1 ha.2
   have h2:=sumB_size E a b
   exact⟨by show 1≤(sumB E a b).size;omega,hs⟩
 ·rw[List.length_append]at hi'
  simp only[List.length_cons,List.length_nil]at hi'
  by_cases hlt:i<E.length
  ·obtain⟨p1,p2,p3,p4,p5⟩:=h.par i hlt h256
   rw[List.getElem_append_left hlt]
   refine⟨p1,p2,p3,p4,?_⟩
   rw[p5]
   unfold sumB
   rw[byt_app _ p1 (Z1),byt_app _ p3 (Z1)]
  ·obtain rfl:i=E.length:=by omega
   have e:(E++[newE E a b])[E.length]'(by simp)=newE E a b:=by simp
   rw[e]
   refine⟨ha.1,ha.2,hb.1,hb.2,?_⟩
   show sumB E a b=sumB (E++[newE E a b]) a b
   unfold sumB
   rw[byt_app _ ha.1 ha.2,byt_app _ hb.1 hb.2]
 ·rw[List.map_append]
  refine List.nodup_append.2 ⟨h.nodup,by simp,?_⟩
  intro x hx y hy
  simp only[List.map_cons,List.map_nil,List.mem_singleton]at hy
  subst hy
  obtain⟨z,hz,rfl⟩:=List.mem_map.1 hx
  exact idxB_none hi z hz
 ·rw[List.take_append_of_le_length h.many.1];exact h.first
theorem pairP_some {E:List Ent} {a b:Int} {i:Nat} (h:pairP E a b=some i):∃ h:i<E.length,256≤i/\(E[i]).f1=a/\(E[i]).f2=b:=by
 unfold pairP at h
 rw[Option.map_eq_some_iff]at h
 obtain⟨j,hj,rfl⟩:=h
 obtain⟨h1,h2,_⟩:=List.findIdx?_eq_some_iff_getElem.1 hj
 rw[List.length_drop]at h1
 rw[List.getElem_drop]at h2
 simp only[Prod.mk.injEq,decide_eq_true_eq]at h2
 exact⟨Z1,Z1,h2.1,h2.2⟩
theorem Good.pair_none {E:List Ent} {a b:Int} (h:Good E) (hi:idxB E (sumB E a b)=none):pairP E a b=none:=by
 cases hp:pairP E a b with
 | none=>rfl
 | some i =>
  obtain⟨hl,h256,e1,e2⟩:=pairP_some hp
  obtain⟨_,_,_,_,p5⟩:=h.par i hl h256
  rw[e1,e2]at p5
  exact absurd p5 (idxB_none hi _ (List.getElem_mem hl))
theorem Good.pair_at {E:List Ent} (h:Good E) {i:Nat} (hl:i<E.length) (h256:256≤i):pairP E (E[i]).f1 (E[i]).f2=some i:=by
 cases hp:pairP E (E[i]).f1 (E[i]).f2 with
 | none =>
  unfold pairP at hp
  rw[Option.map_eq_none_iff,List.findIdx?_eq_none_iff]at hp
  have hm:E[i]∈E.drop 256:=by
   rw[List.mem_iff_getElem]
   exact⟨i-256,Z2,by rw[List.getElem_drop];have e:256+(i-256)=i:=Nat.add_sub_cancel' h256;simp only[e]⟩
  have:=hp _ hm
  simp at this
 | some j =>
  obtain⟨hj,hj256,e1,e2⟩:=pairP_some hp
  obtain⟨_,_,_,_,p5⟩:=h.par i hl h256
  obtain⟨_,_,_,_,q5⟩:=h.par j hj hj256
  rw[e1,e2,←p5]at q5
  have hn:=h.nodup
  have h1:(E.map (·.f0))[j]'(by simpa using hj)=(E.map (·.f0))[i]'(by simpa using hl):=by simpa using q5
  have:=(List.getElem_inj hn).1 h1
  rw[this]
def newT (E:List Ent):List (Int × Int)->Nat->List Ent × Nat × Int
 | [],n=>(E,n,0)
 | m::l,n=>if addC E m.1 m.2=0 then newT (E++[newE E m.1 m.2]) l (n+1) else (E,n,addC E m.1 m.2)
theorem Good.new:∀ {l:List (Int × Int)} {E:List Ent} {n:Nat},Good E->Good (newT E l n).1
 | [],E,n,h=>h
 | m::l,E,n,h=>by
  unfold newT
  by_cases hc:addC E m.1 m.2=0
  ·rw[if_pos hc];exact Good.new (h.add hc)
  ·rw[if_neg hc];exact h
end Go.Proofs.YtkffhgiiejbnaaaGreat.Tk
