import Derived.MapKept
import Derived.Below
import Derived.Laws.Sem
set_option linter.unusedVariables false
set_option linter.unusedSimpArgs false
namespace Go.Proofs.Ythcpdiknejblnaa.Mp
open Go.MapKept Go.RowKit
structure Enc (κ:Type) where
 enc:κ->Value
 d:TypeDesc
 key:∀ k,IsKey d (enc k)
 inj:∀ {a b},enc a=enc b->a=b
def encInt:Enc Int:=⟨fun i=>.int .i64 i,.int .i64,fun _=>rfl,fun h=>by injection h⟩
set_option linter.unusedSectionVars false
variable {κ:Type} [DecidableEq κ]
def MapIs (E:Enc κ) (w:World) (b:Nat) (l:List (κ × Value)):Prop :=
 ∃ es clock,w.heap[b]?=some (.map es clock)/\Stamped es clock/\es.toList.map (fun e=>(e.key,e.val))=l.map (fun p=>(E.enc p.1,p.2))
def get? (l:List (κ × Value)) (k:κ):Option Value:=(l.find? (fun p=>decide (p.1=k))).map (·.2)
theorem get?_cons (p:κ × Value) (l:List (κ × Value)) (k:κ):get? (p::l) k=if p.1=k then some p.2 else get? l k:=by
 unfold get?;rw[List.find?_cons];by_cases h:p.1=k <;> simp[h]
theorem MapIs.of_block {E:Enc κ} {w w':World} {b:Nat} {l:List (κ × Value)} (h:MapIs E w b l) (hb:w'.heap[b]?=w.heap[b]?):MapIs E w' b l:=by
 obtain⟨es,clock,h1,h2,h3⟩:=h
 exact⟨es,clock,hb.trans h1,h2,h3⟩
theorem MapIs.lt {E:Enc κ} {w:World} {b:Nat} {l:List (κ × Value)} (h:MapIs E w b l):b<w.heap.size:=by
 obtain⟨es,clock,h1,_⟩:=h
 exact(Array.getElem?_eq_some_iff.1 h1).1
theorem find_spec (E:Enc κ) (k:κ):∀ (es:List MapEntry) (l:List (κ × Value)) (i:Nat),es.map (fun e=>(e.key,e.val))=l.map (fun p=>(E.enc p.1,p.2)) →
  (Instr.findNow E.d (E.enc k) es i=some none/\get? l k=none/\(∀ x∈es,x.key≠E.enc k)) ∨
  ∃ j e,Instr.findNow E.d (E.enc k) es i=some (some (i+j,e.val))/\es[j]?=some e/\e.key=E.enc k/\get? l k=some e.val
 | [],[],i,_=>.inl ⟨rfl,rfl,by simp⟩
 | [],_::_,_,h=>by simp at h
 | _::_,[],_,h=>by simp at h
 | e::es,p::l,i,h=>by
  simp only[List.map_cons,List.cons.injEq,Prod.mk.injEq]at h
  obtain⟨⟨hk,hv⟩,ht⟩:=h
  obtain⟨r,hr,hiff⟩:=sameNow_of_keys (E.key k) (hk ▸ E.key p.1:IsKey E.d e.key)
  rw[get?_cons]
  cases r with
  | true =>
   have hke:=hiff.1 rfl
   have hpk:p.1=k:=E.inj (hk.symm.trans hke.symm)
   exact .inr ⟨0,e,by simp[Instr.findNow,hr],rfl,hke.symm,by rw[if_pos hpk,hv]⟩
  | false =>
   have hne:e.key≠E.enc k:=fun q=>by have:=hiff.2 q.symm;cases this
   have hpk:¬ p.1=k:=fun q=>hne (by rw[hk,q])
   rw[if_neg hpk]
   rcases find_spec E k es l (i+1) ht with⟨h1,h2,h3⟩|⟨j,e',h1,h2,h3,h4⟩
   ·exact .inl ⟨by simp[Instr.findNow,hr,h1],h2,fun x hx=>by
     cases hx with
     | head=>exact hne
     | tail _ hx=>exact h3 x hx⟩
   ·exact .inr ⟨j+1,e',by simp[Instr.findNow,hr,h1];omega,by simpa using h2,h3,h4⟩
section
variable {P:Program} {w:World} {mty kt et:TypeId} {E:Enc κ} {b:Nat} {l:List (κ × Value)}
theorem lookup_bare (hm:P.underlying mty=some (.map kt et)) (hd:P.underlying kt=some E.d) (h:MapIs E w b l) (k:κ) {z:Value} (hz:(zeroValue et).run P w=.ok z w) :
  (Instr.lookup mty (.map (some b)) (E.enc k) false).run P w=.ok ((get? l k).getD z) w:=by
 obtain⟨es,clock,hb,hs,hl⟩:=h
 rcases find_spec E k es.toList l 0 hl with⟨h1,h2,h3⟩|⟨j,e,h1,h2,h3,h4⟩
 ·simp[Instr.lookup,run_underlying hm,MapKept.run_getObj_map hb,run_checkKey hd (E.key k),run_findKey hd h1,hz,h2,Result.andThen]
 ·simp[Instr.lookup,run_underlying hm,MapKept.run_getObj_map hb,run_checkKey hd (E.key k),run_findKey hd h1,h4,Result.andThen]
end
structure But (b:Nat) (w w':World):Prop where
 os:w'.os=w.os
 tape:w'.tape=w.tape
 output:w'.output=w.output
 size:w'.heap.size=w.heap.size
 block:∀ k,k≠b->w'.heap[k]?=w.heap[k]?
theorem But.of_set (w:World) (b:Nat) (o:Obj):But b w { w with heap:=w.heap.setIfInBounds b o } :=
 ⟨rfl,rfl,rfl,by simp,fun k hk=>by simp[Ne.symm hk]⟩
theorem But.trans {b:Nat} {w w1 w2:World} (h:But b w w1) (k:But b w1 w2):But b w w2 :=
 ⟨k.os.trans h.os,k.tape.trans h.tape,k.output.trans h.output,k.size.trans h.size,fun i hi=>(k.block i hi).trans (h.block i hi)⟩
theorem But.below {b B:Nat} {w w':World} (h:But b w w') (hb:B≤b):Below B w w' :=
 ⟨h.os,h.tape,h.output,by rw[h.size];exact Nat.le_refl _,fun k hk=>h.block k (by omega)⟩
theorem But.cell {b:Nat} {w w':World} (h:But b w w') {a:Addr} (ha:a.block≠b):w'.cell? a=w.cell? a:=World.cell?_of_block (h.block _ ha)
def put (l:List (κ × Value)) (k:κ) (v:Value):List (κ × Value) :=
 if (get? l k).isSome then l.map (fun p=>if p.1=k then (p.1,v) else p) else l++[(k,v)]
theorem put_new {l:List (κ × Value)} {k:κ} (h:get? l k=none) (v:Value):put l k v=l++[(k,v)]:=by simp[put,h]
theorem nodup_of_map {α β:Type} (f:α->β):∀ l:List α,(l.map f).Nodup->l.Nodup
 | [],_=>by simp
 | a::l,h=>by
  simp only[List.map_cons,List.nodup_cons]at h ⊢
  exact⟨fun ha=>h.1 (List.mem_map.2 ⟨a,ha,rfl⟩),nodup_of_map f l h.2⟩
theorem nodup_keys {E:Enc κ} {es:Array MapEntry} {clock:Nat} {l:List (κ × Value)} (hs:Stamped es clock) (hl:es.toList.map (fun e=>(e.key,e.val))=l.map (fun p=>(E.enc p.1,p.2))):(l.map (·.1)).Nodup:=by
 have h1:es.toList.map (·.key)=l.map (fun p=>E.enc p.1):=by
  have:=congrArg (List.map (·.1)) hl
  rw[List.map_map,List.map_map]at this
  exact this
 have h2:=hs.2.2
 rw[h1]at h2
 have h3:(l.map (fun p=>E.enc p.1))=(l.map (·.1)).map E.enc:=by simp[List.map_map]
 rw[h3]at h2
 exact nodup_of_map _ _ h2
theorem list_modify {α β:Type} (f:α->β) (g:α->α) (h:β->β):∀ (l:List α) (j:Nat),(∀ a,l[j]?=some a->f (g a)=h (f a))->(l.modify j g).map f=(l.map f).modify j h
 | [],_,_=>by simp
 | a::l,0,e=>by simp[List.modify,e a rfl]
 | a::l,j+1,e=>by simp[list_modify f g h l j (fun a ha=>e a (by simpa using ha))]
theorem modify_last {α:Type} (f:α->α):∀ (l:List α) (a:α),(l++[a]).modify l.length f=l++[f a]
 | [],a=>by simp
 | b::l,a=>by simp[List.modify_succ_cons,modify_last f l a]
theorem modify_key {l:List (κ × Value)} (k:κ) (v:Value):∀ (l:List (κ × Value)) (j:Nat),(l.map (·.1)).Nodup->(l.map (·.1))[j]?=some k->l.modify j (fun p=>(p.1,v))=l.map (fun p=>if p.1=k then (p.1,v) else p)
 | [],j,_,h=>by simp at h
 | p::l,0,hn,h=>by
  simp only[List.map_cons,List.getElem?_cons_zero,Option.some.injEq]at h
  subst h
  simp only[List.map_cons,List.nodup_cons]at hn
  have:l.map (fun q=>if q.1=p.1 then (q.1,v) else q)=l:=by
   conv=>rhs;rw[←List.map_id l]
   apply List.map_congr_left
   intro q hq
   have:q.1≠p.1:=fun e=>hn.1 (List.mem_map.2 ⟨q,hq,e⟩)
   simp[this]
  simp[List.modify,this]
 | p::l,j+1,hn,h=>by
  simp only[List.map_cons,List.getElem?_cons_succ]at h
  simp only[List.map_cons,List.nodup_cons]at hn
  have hpk:p.1≠k:=fun e=>hn.1 (by rw[e];exact List.mem_of_getElem? h)
  have:=modify_key (l:=l) k v l j hn.2 h
  simp[List.modify_succ_cons,this,hpk]
section
variable {P:Program} {w:World} {mty kt et:TypeId} {E:Enc κ} {b:Nat} {l:List (κ × Value)}
theorem update_run (hm:P.underlying mty=some (.map kt et)) (hd:P.underlying kt=some E.d) (h:MapIs E w b l) (k:κ) (v:Value) :
  ∃ w',(Instr.mapUpdate mty (.map (some b)) (E.enc k) v).run P w=.ok () w'/\MapIs E w' b (put l k v)/\But b w w':=by
 obtain⟨es,clock,hb,hs,hl⟩:=h
 rcases find_spec E k es.toList l 0 hl with⟨h1,h2,h3⟩|⟨j,e,h1,h2,h3,h4⟩
 ·refine⟨_,by simp[Instr.mapUpdate,run_underlying hm,MapKept.run_getObj_map hb,run_checkKey hd (E.key k),run_findKey hd h1,run_setObj_map _ hb,Result.andThen];rfl,⟨_,_,(heap_set hb).1,stamped_push hs h3,?_⟩,But.of_set _ _ _⟩
  rw[put_new h2];simp[hl]
 ·have hj:es[j]?=some e:=by simpa using h2
  refine⟨{ w with heap:=w.heap.setIfInBounds b (.map (es.modify j fun e=>{ e with key:=E.enc k,val:=v }) clock) },by simp[Instr.mapUpdate,run_underlying hm,MapKept.run_getObj_map hb,run_checkKey hd (E.key k),run_findKey hd h1,hj,h3,run_keyThatStays (E.key k),run_setObj_map _ hb,Result.andThen],⟨_,_,(heap_set hb).1,stamped_modify hs _ _ (fun _ _=>rfl) (fun e' _ he'=>by rw[hj]at he';cases he';exact h3.symm),?_⟩,But.of_set _ _ _⟩
  have hjk:(l.map (·.1))[j]?=some k:=by
   have h5:=congrArg (fun x:List (Value × Value)=>x[j]?) hl
   simp only[List.getElem?_map,h2,Option.map_some]at h5
   cases hlj:l[j]? with
   | none=>rw[hlj]at h5;simp at h5
   | some p =>
    rw[hlj]at h5
    simp only[Option.map_some,Option.some.injEq,Prod.mk.injEq]at h5
    simp only[List.getElem?_map,hlj,Option.map_some,Option.some.injEq]
    exact E.inj (h5.1.symm.trans h3)
  rw[put,h4,if_pos (show (some e.val).isSome=true from rfl),←modify_key (l:=l) k v l j (nodup_keys hs hl) hjk]
  rw[Array.toList_modify,list_modify _ _ (fun q:Value × Value=>(q.1,v)) _ _ (fun a ha=>by
   rw[h2]at ha;cases ha;simp[h3]),hl,list_modify _ _ (fun q:Value × Value=>(q.1,v)) _ _ (fun _ _=>rfl)]
end
theorem MapIs.made (E:Enc κ) (w:World):MapIs E (w.alloc (.map #[] 0)) w.heap.size ([]:List (κ × Value)) :=
 ⟨#[],0,(heap_alloc w _).1,stamped_empty 0,rfl⟩
end Go.Proofs.Ythcpdiknejblnaa.Mp
