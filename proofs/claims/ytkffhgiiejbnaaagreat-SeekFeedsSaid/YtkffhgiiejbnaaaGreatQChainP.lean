import Derived.Test.YtkffhgiiejbnaaaGreatQAid
set_option linter.unusedVariables false
set_option linter.unusedSimpArgs false
set_option linter.unnecessarySimpa false
namespace Go.Proofs.YtkffhgiiejbnaaaGreat.Ch
def passL (a b id:Int):List Int->List Int
 | []=>[]
 | [x]=>[x]
 | x::y::l=>if x=a/\y=b then id::passL a b id l else x::passL a b id (y::l)
def Has (a b:Int) (l:List Int):Prop:=∃ u v,l=u++a::b::v
def encR:List (Int × Int)->Int->List Int->List Int
 | [],_,l=>l
 | r::rs,id,l=>encR rs (id+1) (passL r.1 r.2 id l)
theorem Has.cons {a b x:Int} {l:List Int} (h:Has a b l):Has a b (x::l):=by
 obtain⟨u,v,rfl⟩:=h;exact⟨x::u,v,rfl⟩
theorem pass_none {a b id:Int}:∀ {l:List Int},¬ Has a b l->passL a b id l=l
 | [],_=>rfl
 | [x],_=>rfl
 | x::y::l,h=>by
  unfold passL
  rw[if_neg (fun e=>h ⟨[],l,by rw[e.1,e.2];rfl⟩),pass_none (fun q=>h q.cons)]
theorem pass_at {a b id:Int}:∀ {pre post:List Int},¬ Has a b (pre++[a])->passL a b id (pre++a::b::post)=pre++id::passL a b id post
 | [],post,h=>by simp[passL]
 | [x],post,h=>by
  have hx:¬ (x=a/\a=b):=fun e=>h ⟨[],[],by rw[e.1,←e.2];rfl⟩
  show passL a b id (x::a::b::post)=_
  rw[passL,if_neg hx]
  have:passL a b id (a::b::post)=id::passL a b id post:=by simp[passL]
  rw[this];rfl
 | x::y::pre,post,h=>by
  have hx:¬ (x=a/\y=b):=fun e=>h ⟨[],pre++[a],by rw[e.1,e.2];rfl⟩
  show passL a b id (x::y::(pre++a::b::post))=_
  rw[passL,if_neg hx]
  have:=pass_at (pre:=y::pre) (post:=post) (id:=id) (fun q=>h q.cons)
  rw[List.cons_append]at this
  rw[this];rfl
theorem pass_new {a b id:Int} (ha:id≠a) (hb:id≠b):∀ {pre post:List Int},¬ Has a b pre->passL a b id (pre++id::post)=pre++id::passL a b id post
 | [],[],h=>rfl
 | [],y::post,h=>by simp[passL,ha]
 | [x],post,h=>by
  have hx:¬ (x=a/\id=b):=fun e=>hb e.2
  show passL a b id (x::id::post)=_
  rw[passL,if_neg hx]
  have:=pass_new ha hb (pre:=[]) (post:=post) (by rintro⟨u,v,e⟩;cases u <;> cases e)
  rw[List.nil_append]at this
  rw[this];rfl
 | x::y::pre,post,h=>by
  have hx:¬ (x=a/\y=b):=fun e=>h ⟨[],pre,by rw[e.1,e.2];rfl⟩
  show passL a b id (x::y::(pre++id::post))=_
  rw[passL,if_neg hx]
  have:=pass_new ha hb (pre:=y::pre) (post:=post) (fun q=>h q.cons)
  rw[List.cons_append]at this
  rw[this];rfl
theorem Has.app {a b:Int} {l:List Int} (h:Has a b l) (m:List Int):Has a b (l++m):=by
 obtain⟨u,v,rfl⟩:=h;exact⟨u,v++m,by simp⟩
theorem Has.pre {a b:Int} {l:List Int} (h:Has a b l) (m:List Int):Has a b (m++l):=by
 obtain⟨u,v,rfl⟩:=h;exact⟨m++u,v,by simp⟩
theorem has_app {a b:Int}:∀ {l:List Int} {x:Int} {m:List Int},Has a b (l++x::m)->Has a b (l++[x])\/Has a b (x::m)
 | [],x,m,h=>.inr h
 | y::l,x,m,h=>by
  obtain⟨u,v,e⟩:=h
  cases u with
  | nil =>
   cases l with
   | nil=>injection e with e1 e2;injection e2 with e2 e3;subst e1;subst e2;exact .inl ⟨[],[],rfl⟩
   | cons z l=>injection e with e1 e2;injection e2 with e2 e3;subst e1;subst e2;exact .inl ⟨[],l++[x],rfl⟩
  | cons z u =>
   injection e with e1 e2
   rcases has_app (l:=l) ⟨u,v,e2⟩ with h|h
   ·exact .inl h.cons
   ·exact .inr h
theorem has_snoc {a b x:Int}:∀ {l:List Int},Has a b (l++[x])->Has a b l\/x=b
 | [],h=>by obtain⟨u,v,e⟩:=h;cases u with
  | nil=>cases e
  | cons z u=>injection e with _ e;cases u <;> cases e
 | y::l,h=>by
  obtain⟨u,v,e⟩:=h
  cases u with
  | nil =>
   cases l with
   | nil=>injection e with e1 e2;injection e2 with e2 e3;exact .inr e2
   | cons z l=>injection e with e1 e2;injection e2 with e2 e3;subst e1;subst e2;exact .inl ⟨[],l,rfl⟩
  | cons z u =>
   injection e with e1 e2
   rcases has_snoc (l:=l) ⟨u,v,e2⟩ with h|h
   ·exact .inl h.cons
   ·exact .inr h
theorem has_cons {a b x:Int} {l:List Int} (h:Has a b (x::l)):Has a b l\/x=a:=by
 obtain⟨u,v,e⟩:=h
 cases u with
 | nil=>injection e with e1 _;exact .inr e1
 | cons z u=>injection e with _ e2;exact .inl ⟨u,v,e2⟩
def Older (id:Int):List (Int × Int)->Prop
 | []=>True
 | r::rs=>(r.1<id/\r.2<id)/\Older (id+1) rs
theorem new_has {a b x y id:Int} {pre post:List Int} (ha:id≠a) (hb:id≠b) (h:¬ Has a b (pre++x::y::post)):¬ Has a b (pre++id::post):=by
 intro q
 rcases has_app q with q|q
 ·rcases has_snoc q with q|q
  ·exact h (q.app _)
  ·exact hb q
 ·rcases has_cons q with q|q
  ·exact h ((q.cons (x:=y)).cons (x:=x) |>.pre pre)
  ·exact ha q
theorem enc_step:∀ (rs:List (Int × Int)) (id:Int) (r:Nat) (a b:Int) (pre post:List Int),Older id rs->rs[r]?=some (a,b) →
  (∀ (k:Nat) (p q:Int),k<r->rs[k]?=some (p,q)->¬ Has p q (pre++a::b::post))->¬ Has a b (pre++[a]) →
  encR rs id (pre++a::b::post)=encR rs id (pre++(id+r)::post)
 | [],_,_,_,_,_,_,_,h,_,_=>by simp at h
 | (p,q)::rs,id,0,a,b,pre,post,ho,h,_,hn=>by
  simp only[List.getElem?_cons_zero,Option.some.injEq,Prod.mk.injEq]at h
  obtain⟨rfl,rfl⟩:=h
  have h1:id≠p:=by have:=ho.1.1;intro e;subst e;exact absurd this (Int.lt_irrefl _)
  have h2:id≠q:=by have:=ho.1.2;intro e;subst e;exact absurd this (Int.lt_irrefl _)
  unfold encR
  simp only[Int.natCast_zero,Int.add_zero]
  rw[pass_at hn,pass_new h1 h2 (fun e=>hn (e.app _))]
 | (p,q)::rs,id,r+1,a,b,pre,post,ho,h,hl,hn=>by
  simp only[List.getElem?_cons_succ]at h
  have h0:=hl 0 p q (by omega) rfl
  have e1:id+((r+1:Nat):Int)=(id+1)+(r:Int):=by omega
  have h1:id+((r+1:Nat):Int)≠p:=by have:=ho.1.1;omega
  have h2:id+((r+1:Nat):Int)≠q:=by have:=ho.1.2;omega
  unfold encR
  simp only[]
  rw[pass_none h0,pass_none (new_has h1 h2 h0),e1]
  exact enc_step rs (id+1) r a b pre post ho.2 h (fun k p' q' hk he=>hl (k+1) p' q' (by omega) he) hn
theorem enc_end:∀ (rs:List (Int × Int)) (id:Int) (l:List Int),(∀ (k:Nat) (p q:Int),rs[k]?=some (p,q)->¬ Has p q l)->encR rs id l=l
 | [],_,_,_=>rfl
 | (p,q)::rs,id,l,h=>by
  unfold encR
  simp only[]
  rw[pass_none (h 0 p q rfl)]
  exact enc_end rs (id+1) l (fun k p' q' he=>h (k+1) p' q' he)
def ids (ns:List (Nat × Int)):List Int:=ns.map (·.2)
theorem has_nodes {p q:Int}:∀ {ns:List (Nat × Int)},Has p q (ids ns)->∃ u i j v,ns=u++(i,p)::(j,q)::v
 | [],h=>by obtain⟨u,v,e⟩:=h;cases u <;> cases e
 | n::ns,h=>by
  obtain⟨u,v,e⟩:=h
  cases u with
  | nil =>
   cases ns with
   | nil=>cases e
   | cons m ns =>
    injection e with e1 e2;injection e2 with e2 e3
    exact⟨[],n.1,m.1,ns,by rw[←e1,←e2];rfl⟩
  | cons z u =>
   injection e with _ e2
   obtain⟨u',i,j,v',h'⟩:=has_nodes (ns:=ns) ⟨u,v,e2⟩
   exact⟨n::u',i,j,v',by rw[h'];rfl⟩
structure Wt where
 rank:Int
 place:Nat
 a:Int
 b:Int
def Sorted:List (Nat × Int)->Prop
 | []=>True
 | [_]=>True
 | x::y::l=>x.1<y.1/\Sorted (y::l)
theorem Sorted.tail {x:Nat × Int} {l:List (Nat × Int)} (h:Sorted (x::l)):Sorted l:=by
 cases l with
 | nil=>trivial
 | cons y l=>exact h.2
theorem Sorted.lt:∀ {l:List (Nat × Int)} {x y:Nat × Int},Sorted (x::l)->y∈l->x.1<y.1
 | z::l,x,y,h,hy=>by
  cases hy with
  | head=>exact h.1
  | tail _ hy=>exact Nat.lt_trans h.1 (h.2.lt hy)
theorem Sorted.right:∀ {u v:List (Nat × Int)},Sorted (u++v)->Sorted v
 | [],_,h=>h
 | _::u,v,h=>Sorted.right (u:=u) h.tail
theorem Sorted.app_lt:∀ {u v:List (Nat × Int)} {x y:Nat × Int},Sorted (u++v)->x∈u->y∈v->x.1<y.1
 | z::u,v,x,y,h,hx,hy=>by
  cases hx with
  | head=>exact Sorted.lt h (List.mem_append.2 (.inr hy))
  | tail _ hx=>exact Sorted.app_lt (u:=u) h.tail hx hy
theorem Sorted.drop2:∀ {u v:List (Nat × Int)} {i j:Nat} {a b c:Int},Sorted (u++(i,a)::(j,b)::v)->Sorted (u++(i,c)::v)
 | [],[],_,_,_,_,_,_=>trivial
 | [],z::v,i,j,a,b,c,h=>⟨Nat.lt_trans h.1 h.2.1,h.2.2⟩
 | [x],v,i,j,a,b,c,h=>⟨h.1,Sorted.drop2 (u:=[]) (v:=v) (a:=a) (b:=b) h.2⟩
 | x::y::u,v,i,j,a,b,c,h=>⟨h.1,Sorted.drop2 (u:=y::u) (v:=v) (a:=a) (b:=b) h.2⟩
def Complete (pr:Int->Int->Option Int) (ns:List (Nat × Int)) (Q:Wt->Prop):Prop :=
 ∀ u i a j b v id,ns=u++(i,a)::(j,b)::v->pr a b=some id->Q ⟨id,i,a,b⟩
def Least (e:Wt) (Q:Wt->Prop):Prop:=∀ e',Q e'->e.rank<e'.rank\/(e.rank=e'.rank/\e.place≤e'.place)
theorem enc_join {rs:List (Int × Int)} {pr:Int->Int->Option Int} (ho:Older 256 rs) (hpr:∀ (k:Nat) (p q:Int),rs[k]?=some (p,q)->pr p q=some (256+(k:Int)))
  {u v:List (Nat × Int)} {i j:Nat} {a b:Int} {Q:Wt->Prop} {r:Nat} (hs:Sorted (u++(i,a)::(j,b)::v)) (hc:Complete pr (u++(i,a)::(j,b)::v) Q) (hr:rs[r]?=some (a,b)) (hl:Least ⟨256+(r:Int),i,a,b⟩ Q) :
  encR rs 256 (ids (u++(i,a)::(j,b)::v))=encR rs 256 (ids (u++(i,256+(r:Int))::v)):=by
 have e1:ids (u++(i,a)::(j,b)::v)=ids u++a::b::ids v:=by simp[ids]
 have e2:ids (u++(i,256+(r:Int))::v)=ids u++(256+(r:Int))::ids v:=by simp[ids]
 rw[e1,e2]
 refine enc_step rs 256 r a b (ids u) (ids v) ho hr (fun k p q hk he hh=>?_) (fun hh=>?_)
 ·rw[←e1]at hh
  obtain⟨u',i',j',v',h'⟩:=has_nodes hh
  have:=hl _ (hc u' i' p j' q v' _ h' (hpr k p q he))
  simp only at this
  omega
 ·have e3:ids u++[a]=ids (u++[(i,a)]):=by simp[ids]
  rw[e3]at hh
  obtain⟨u',i',j',v',h'⟩:=has_nodes hh
  have hu:u++(i,a)::(j,b)::v=u'++(i',a)::(j',b)::(v'++(j,b)::v):=by
   have:u++(i,a)::(j,b)::v=(u++[(i,a)])++(j,b)::v:=by simp
   rw[this,h'];simp
  have h1:=hl _ (hc u' i' a j' b _ _ hu (hpr r a b hr))
  simp only at h1
  have hm:(i',a)∈u:=by
   have hlast:u++[(i,a)]=(u'++[(i',a)])++((j',b)::v'):=by rw[h'];simp
   rcases List.eq_nil_or_concat ((j',b)::v') with h0|⟨w,z,h0⟩
   ·cases h0
   ·rw[h0,List.concat_eq_append,←List.append_assoc]at hlast
    have:=(List.append_inj' hlast rfl).1
    rw[this];simp
  have:=Sorted.app_lt hs hm (List.mem_cons_self ..)
  simp only at this
  omega
theorem enc_done {rs:List (Int × Int)} {pr:Int->Int->Option Int} (hpr:∀ (k:Nat) (p q:Int),rs[k]?=some (p,q)->pr p q=some (256+(k:Int)))
  {ns:List (Nat × Int)} {Q:Wt->Prop} (hc:Complete pr ns Q) (hn:∀ e,¬ Q e):encR rs 256 (ids ns)=ids ns :=
 enc_end rs 256 _ (fun k p q he hh=>by
  obtain⟨u,i,j,v,h⟩:=has_nodes hh
  exact hn _ (hc u i p j q v _ h (hpr k p q he)))
theorem complete_stale {pr:Int->Int->Option Int} {ns:List (Nat × Int)} {Q Q':Wt->Prop} {e:Wt} (hc:Complete pr ns Q) (hq:∀ x,Q x->x≠e->Q' x) (hst:∀ u j v,ns≠u++(e.place,e.a)::(j,e.b)::v):Complete pr ns Q':=by
 intro u i a j b v id hn hp
 refine hq _ (hc u i a j b v id hn hp) (fun h=>?_)
 subst h
 exact hst u j v hn
theorem Complete.tail {pr:Int->Int->Option Int} {x:Nat × Int} {ns:List (Nat × Int)} {Q:Wt->Prop} (h:Complete pr (x::ns) Q):Complete pr ns Q :=
 fun u i a j b v id hn hp=>h (x::u) i a j b v id (by rw[hn];rfl) hp
theorem complete_join {pr:Int->Int->Option Int} {i j:Nat} {a b id:Int} {v:List (Nat × Int)} {Q Q':Wt->Prop} {e:Wt} (he:e.place=i) (hq:∀ x,Q x->x≠e->Q' x)
  (h2:∀ y v0,v=y::v0->∀ id2,pr id y.2=some id2->Q' ⟨id2,i,id,y.2⟩):∀ (u:List (Nat × Int)),Sorted (u++(i,a)::(j,b)::v)->Complete pr (u++(i,a)::(j,b)::v) Q →
  (∀ u0 p,u=u0++[p]->∀ id2,pr p.2 id=some id2->Q' ⟨id2,p.1,p.2,id⟩)->Complete pr (u++(i,id)::v) Q'
 | [],hs,hc,h1=>by
  intro U I A J B V id' hn hp
  cases U with
  | nil =>
   injection hn with e1 e2
   injection e1 with e1 e3
   subst e1;subst e3
   exact h2 _ _ e2 id' hp
  | cons z U =>
   injection hn with _ e2
   refine hq _ (hc.tail.tail U I A J B V id' e2 hp) (fun h=>?_)
   have h3:I=e.place:=by rw[←h]
   have h4:=Sorted.lt hs (y:=(I,A)) (by rw[e2];simp)
   simp only at h4
   omega
 | x::u,hs,hc,h1=>by
  intro U I A J B V id' hn hp
  cases U with
  | nil =>
   injection hn with e1 e2
   subst e1
   cases u with
   | nil =>
    injection e2 with e2 e3
    injection e2 with e2 e4
    subst e2;subst e4
    exact h1 [] (I,A) rfl id' hp
   | cons y u =>
    injection e2 with e2 e3
    subst e2
    refine hq _ (hc [] I A J B (u++(i,a)::(j,b)::v) id' rfl hp) (fun h=>?_)
    have h3:I=e.place:=by rw[←h]
    have h4:=Sorted.lt hs (y:=(i,a)) (by simp)
    simp only at h4
    omega
  | cons z U =>
   injection hn with _ e2
   exact complete_join he hq h2 u hs.tail hc.tail (fun u0 p hu=>h1 (x::u0) p (by rw[hu];rfl)) U I A J B V id' e2 hp
structure Nd where
 id:Int
 ahead:Int
 next:Int
def nxt:List (Nat × Int)->Int
 | []=>-1
 | x::_=>(x.1:Int)
def Links (L:List Nd):Int->List (Nat × Int)->Prop
 | _,[]=>True
 | p,(i,a)::l=>L[i]?=some ⟨a,p,nxt l⟩/\0≤a/\Links L (i:Int) l
theorem Links.congr {L L':List Nd}:∀ {l:List (Nat × Int)} {p:Int},(∀ x∈l,L'[x.1]?=L[x.1]?)->Links L p l->Links L' p l
 | [],_,_,_=>trivial
 | (i,a)::l,p,h,hl=>⟨(h (i,a) (List.mem_cons_self ..)).trans hl.1,hl.2.1,Links.congr (fun x hx=>h x (List.mem_cons_of_mem _ hx)) hl.2.2⟩
def joinL (L:List Nd) (i j:Nat) (after id:Int):List Nd :=
 let L2:=(L.modify j (fun n=>⟨-2,n.ahead,n.next⟩)).modify i (fun n=>⟨id,n.ahead,after⟩)
 if after=-1 then L2 else L2.modify after.toNat (fun n=>⟨n.id,(i:Int),n.next⟩)
theorem joinL_len (L:List Nd) (i j:Nat) (after id:Int):(joinL L i j after id).length=L.length:=by
 unfold joinL;simp only[];split <;> simp
theorem mod_ne {α:Type} {L:List α} {i k:Nat} {f:α->α} (h:k≠i):(L.modify i f)[k]?=L[k]?:=by
 rw[List.getElem?_modify];simp[Ne.symm h]
theorem mod_eq {α:Type} {L:List α} {i:Nat} {f:α->α} {n:α} (h:L[i]?=some n):(L.modify i f)[i]?=some (f n):=by
 rw[List.getElem?_modify];simp[h]
theorem joinL_other {L:List Nd} {i j k:Nat} {after id:Int} (h1:k≠i) (h2:k≠j) (h3:after≠(k:Int)) (h4:after=-1\/0≤after):(joinL L i j after id)[k]?=L[k]?:=by
 unfold joinL
 simp only[]
 by_cases e:after=-1
 ·rw[if_pos e,mod_ne h1,mod_ne h2]
 ·rw[if_neg e,mod_ne (by omega),mod_ne h1,mod_ne h2]
theorem joinL_i {L:List Nd} {i j:Nat} {after id:Int} {n:Nd} (h:L[i]?=some n) (h2:i≠j) (h3:after≠(i:Int)) (h4:after=-1\/0≤after):(joinL L i j after id)[i]?=some ⟨id,n.ahead,after⟩:=by
 unfold joinL
 simp only[]
 by_cases e:after=-1
 ·rw[if_pos e,mod_eq ((mod_ne h2).trans h)]
 ·rw[if_neg e,mod_ne (by omega),mod_eq ((mod_ne h2).trans h)]
theorem joinL_j {L:List Nd} {i j:Nat} {after id:Int} {n:Nd} (h:L[j]?=some n) (h2:i≠j) (h3:after≠(j:Int)) (h4:after=-1\/0≤after):(joinL L i j after id)[j]?=some ⟨-2,n.ahead,n.next⟩:=by
 unfold joinL
 simp only[]
 by_cases e:after=-1
 ·rw[if_pos e,mod_ne (Ne.symm h2),mod_eq h]
 ·rw[if_neg e,mod_ne (by omega),mod_ne (Ne.symm h2),mod_eq h]
theorem joinL_after {L:List Nd} {i j k:Nat} {id:Int} {n:Nd} (h:L[k]?=some n) (h1:k≠i) (h2:k≠j):(joinL L i j (k:Int) id)[k]?=some ⟨n.id,(i:Int),n.next⟩:=by
 unfold joinL
 simp only[]
 rw[if_neg (by omega),Int.toNat_natCast,mod_eq ((mod_ne h1).trans ((mod_ne h2).trans h))]
theorem nxt_ok (v:List (Nat × Int)):nxt v=-1\/0≤nxt v:=by cases v with
 | nil=>exact .inl rfl
 | cons x v=>right;show 0≤(x.1:Int);omega
theorem links_join {L:List Nd} {i j:Nat} {a b id:Int} {v:List (Nat × Int)} (hid:0≤id):∀ {u:List (Nat × Int)} {p:Int},Sorted (u++(i,a)::(j,b)::v)->Links L p (u++(i,a)::(j,b)::v)->Links (joinL L i j (nxt v) id) p (u++(i,id)::v)
 | [],p,hs,hl=>by
  obtain⟨h1,_,h2,_,h3⟩:=hl
  have hij:i<j:=hs.1
  have hni:nxt v≠(i:Int):=by
   cases v with
   | nil=>show (-1:Int)≠_;omega
   | cons x v=>have:=hs.2.1;show (x.1:Int)≠_;simp only at this;omega
  refine⟨joinL_i h1 (by omega) hni (nxt_ok v),hid,?_⟩
  cases v with
  | nil=>trivial
  | cons x v =>
   obtain⟨k,c⟩:=x
   have hjk:j<k:=hs.2.1
   obtain⟨g1,g2,g3⟩:=h3
   refine⟨joinL_after g1 (by omega) (by omega),g2,Links.congr (fun y hy=>?_) g3⟩
   have:=Sorted.lt hs.2.2 hy
   simp only at this
   exact joinL_other (by omega) (by omega) (by show (k:Int)≠_;omega) (.inr (by show 0≤(k:Int);omega))
 | (x,c)::u,p,hs,hl=>by
  obtain⟨h1,h2,h3⟩:=hl
  have hxi:x<i:=Sorted.lt hs (y:=(i,a)) (by simp)
  have hxj:x<j:=Sorted.lt hs (y:=(j,b)) (by simp)
  have hna:nxt v≠(x:Int):=by
   cases v with
   | nil=>show (-1:Int)≠_;omega
   | cons y v=>have:=Sorted.lt hs (y:=y) (by simp);show (y.1:Int)≠_;simp only at this;omega
  refine⟨?_,h2,links_join hid (u:=u) hs.tail h3⟩
  have e:nxt (u++(i,id)::v)=nxt (u++(i,a)::(j,b)::v):=by cases u <;> rfl
  rw[joinL_other (by omega) (by omega) hna (nxt_ok v)]
  exact h1.trans (by rw[show nxt (u.append ((i,id)::v))=_ from e];rfl)
theorem Links.at_ {L:List Nd}:∀ {u:List (Nat × Int)} {p:Int} {i:Nat} {a:Int} {v:List (Nat × Int)},Links L p (u++(i,a)::v)->∃ q,L[i]?=some ⟨a,q,nxt v⟩/\0≤a/\(u=[]->q=p)/\∀ u0 x,u=u0++[x]->q=(x.1:Int)
 | [],p,i,a,v,h=>⟨p,h.1,h.2.1,fun _=>rfl,fun u0 x e=>by cases u0 <;> cases e⟩
 | [y],p,i,a,v,h=>by
  obtain⟨_,_,h3,h4,_⟩:=h
  refine⟨(y.1:Int),h3,h4,fun e=>(by cases e),fun u0 x e=>?_⟩
  cases u0 with
  | nil=>injection e with e _;rw[e]
  | cons z u0=>injection e with _ e;cases u0 <;> cases e
 | y::z::u,p,i,a,v,h=>by
  obtain⟨_,_,h3⟩:=h
  obtain⟨q,g1,g2,g3,g4⟩:=Links.at_ (u:=z::u) h3
  refine⟨q,g1,g2,fun e=>(by cases e),fun u0 x e=>?_⟩
  cases u0 with
  | nil=>injection e with _ e;cases e
  | cons w u0=>injection e with _ e;exact g4 u0 x e
structure ChainIs (L:List Nd) (ns:List (Nat × Int)):Prop where
 links:Links L (-1) ns
 sorted:Sorted ns
 gone:∀ k n,L[k]?=some n->(∀ a,(k,a)∉ns)->n.id=-2
 begin_:0<L.length->∃ a v,ns=(0,a)::v
 empty:L.length=0->ns=[]
theorem ChainIs.join {L:List Nd} {u v:List (Nat × Int)} {i j:Nat} {a b id:Int} (h:ChainIs L (u++(i,a)::(j,b)::v)) (hid:0≤id):ChainIs (joinL L i j (nxt v) id) (u++(i,id)::v):=by
 have hs:=h.sorted
 have hij:i<j:=(Sorted.right (u:=u) hs).1
 refine⟨links_join hid hs h.links,hs.drop2,fun k n hk hn=>?_,fun h0=>?_,fun h0=>?_⟩
 ·have hki:k≠i:=fun e=>hn id (by rw[e];simp)
  by_cases hkj:k=j
  ·subst hkj
   obtain⟨q,g1,_⟩:=Links.at_ (u:=u++[(i,a)]) (i:=k) (a:=b) (v:=v) (p:=-1) (by simpa using h.links)
   have hna:nxt v≠(k:Int):=by
    cases v with
    | nil=>show (-1:Int)≠_;omega
    | cons y v =>
     have:=Sorted.lt (Sorted.right (u:=u) hs).2 (y:=y) (by simp)
     show (y.1:Int)≠_;simp only at this;omega
   rw[joinL_j g1 (by omega) hna (nxt_ok v)]at hk
   injection hk with hk
   rw[←hk]
  ·by_cases hka:nxt v=(k:Int)
   ·cases v with
    | nil=>have:(-1:Int)=k:=hka;omega
    | cons y v =>
     have:(y.1:Int)=k:=hka
     exact absurd (by rw[show k=y.1 from by omega];simp) (hn y.2)
   ·rw[joinL_other hki hkj hka (nxt_ok v)]at hk
    refine h.gone k n hk (fun c hc=>?_)
    rcases List.mem_append.1 hc with hc|hc
    ·exact hn c (List.mem_append.2 (.inl hc))
    ·cases hc with
     | head=>exact hki rfl
     | tail _ hc=>cases hc with
      | head=>exact hkj rfl
      | tail _ hc=>exact hn c (List.mem_append.2 (.inr (List.mem_cons_of_mem _ hc)))
 ·rw[joinL_len]at h0
  obtain⟨c,w,e⟩:=h.begin_ h0
  cases u with
  | nil=>injection e with e _;injection e with e _;exact⟨id,v,by rw[e];rfl⟩
  | cons x u=>injection e with e _;exact⟨c,u++(i,id)::v,by rw[e];rfl⟩
 ·rw[joinL_len]at h0
  have:=h.empty h0
  cases u <;> cases this
def staleB (L:List Nd) (i:Nat) (a b:Int):Bool:=match L[i]? with
 | some n=>if n.id≠a then true else if n.next=-1 then true else match L[n.next.toNat]? with
  | some m=>decide (m.id≠b)
  | none=>true
 | none=>true
theorem stale_yes {L:List Nd} {ns:List (Nat × Int)} {i:Nat} {a b:Int} (h:ChainIs L ns) (hst:staleB L i a b=true):∀ u j v,ns≠u++(i,a)::(j,b)::v:=by
 intro u j v e
 subst e
 obtain⟨q,g1,_⟩:=Links.at_ h.links
 obtain⟨q',g2,_⟩:=Links.at_ (u:=u++[(i,a)]) (i:=j) (a:=b) (v:=v) (p:=-1) (by simpa using h.links)
 unfold staleB at hst
 have hn:nxt ((j,b)::v)=(j:Int):=rfl
 rw[g1]at hst
 simp only[hn,Int.toNat_natCast,g2]at hst
 simp at hst
theorem split_of_mem:∀ {ns:List (Nat × Int)} {x:Nat × Int},x∈ns->∃ u v,ns=u++x::v
 | _,_,h=>List.append_of_mem h
theorem stale_no {L:List Nd} {ns:List (Nat × Int)} {i:Nat} {a b:Int} (h:ChainIs L ns) (ha:0≤a) (hst:staleB L i a b=false):∃ u j v,ns=u++(i,a)::(j,b)::v:=by
 unfold staleB at hst
 cases hi:L[i]? with
 | none=>rw[hi]at hst;simp at hst
 | some n =>
  rw[hi]at hst
  simp only at hst
  by_cases e1:n.id≠a
  ·rw[if_pos e1]at hst;cases hst
  ·rw[if_neg e1]at hst
   have e1':n.id=a:=by simpa using e1
   by_cases e2:n.next=-1
   ·rw[if_pos e2]at hst;cases hst
   ·rw[if_neg e2]at hst
    have hmem:∃ c,(i,c)∈ns:=by
     apply Classical.byContradiction
     intro hno
     have:=h.gone i n hi (fun c hc=>hno ⟨c,hc⟩)
     omega
    obtain⟨c,hc⟩:=hmem
    obtain⟨u,v,e⟩:=split_of_mem hc
    subst e
    obtain⟨q,g1,_⟩:=Links.at_ h.links
    rw[hi]at g1
    injection g1 with g1
    subst g1
    simp only at e1' e2 hst
    subst e1'
    cases v with
    | nil=>exact absurd rfl e2
    | cons y v =>
     obtain⟨j,d⟩:=y
     obtain⟨q',g2,_⟩:=Links.at_ (u:=u++[(i,c)]) (i:=j) (a:=d) (v:=v) (p:=-1) (by simpa using h.links)
     have hn:nxt ((j,d)::v)=(j:Int):=rfl
     rw[hn,Int.toNat_natCast,g2]at hst
     simp at hst
     exact⟨u,j,v,by rw[hst]⟩
end Go.Proofs.YtkffhgiiejbnaaaGreat.Ch
