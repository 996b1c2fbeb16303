import Derived.Test.YthcpdiknejblnaaQeTaM
set_option linter.unusedVariables false
set_option linter.unusedSimpArgs false
namespace Go.Proofs.Ythcpdiknejblnaa.Ta
open Go Go.MapKept Go.RowKit Go.ChangeMaps Mp
def encM (k:Int × Int):Value:=.agg #[.int .i64 k.1,.int .i64 k.2]
theorem encM_inj {a b:Int × Int} (h:encM a=encM b):a=b:=by
 obtain⟨a1,a2⟩:=a;obtain⟨b1,b2⟩:=b
 simp[encM]at h
 rw[h.1,h.2]
theorem eq_run (a b:Int × Int) (w:World):(Op.equal 61 (encM a) (encM b)).run Try.prog w=.ok (decide (a=b)) w:=by
 obtain⟨a1,a2⟩:=a;obtain⟨b1,b2⟩:=b
 have hS:Try.prog.underlying 61=some (.struct (Try.prog.fieldsOf 61)):=Z5
 have hp:Try.prog.stoodInHeld 61=false:=Z5
 have u3:=Try.underlying3
 have a3:=Try.isAgg3
 have z3:=Try.sizeOf3
 unfold Op.equal encM
 rw[show Op.maxDepth=9999+1 from rfl,run_equalIn_agg w 9999 61 _ _ hS hp]
 simp only[Program.fieldsOf,Try.underlying61]
 go_simp
 by_cases h1:a1=b1 <;> by_cases h2:a2=b2 <;> simp[h1,h2]
theorem check_leaf (e:Bool) (n:Nat) (k:Int) (w:World):(Instr.checkKey e (n+1) 3 (.int .i64 k)).run Try.prog w=.ok () w:=by
 simp[Instr.checkKey,run_underlying Try.underlying3,Result.andThen]
theorem check_two (e:Bool) (n:Nat) (a:Int × Int) (w:World):(Instr.checkKey e (n+1+1) 61 (encM a)).run Try.prog w=.ok () w:=by
 have a3:=Try.isAgg3
 have z3:=Try.sizeOf3
 have hl:=check_leaf e n
 unfold encM
 rw[Instr.checkKey]
 simp only[Sem.run_bind,run_underlying Try.underlying61,Result.andThen_ok]
 rw[←Array.forIn_toList]
 simp[part,asAgg,go_sem,hl,a3,z3]
theorem check_run (e:Bool) (a:Int × Int) (w:World):(Instr.checkKey e 10000 61 (encM a)).run Try.prog w=.ok () w:=check_two e 9998 a w
theorem stays_run (a:Int × Int) (w:World):(Instr.keyThatStays (encM a) (encM a)).run Try.prog w=.ok (encM a) w:=by
 have:Instr.sameBits 10000 (encM a) (encM a)=true:=by
  unfold encM
  simp[Instr.sameBits]
 simp[Instr.keyThatStays,this]
theorem asking (k:Int × Int) (w:World):∀ (es:List MapEntry) (l:List ((Int × Int) × Value)) (i:Nat),es.map (fun e=>(e.key,e.val))=l.map (fun p=>(encM p.1,p.2)) →
  ((Instr.findAsking 61 (encM k) es i).run Try.prog w=.ok none w/\get? l k=none/\(∀ x∈es,x.key≠encM k)) ∨
  ∃ j e,(Instr.findAsking 61 (encM k) es i).run Try.prog w=.ok (some (i+j,e.val)) w/\es[j]?=some e/\e.key=encM k/\get? l k=some e.val
 | [],[],i,_=>.inl ⟨by simp[Instr.findAsking],rfl,by simp⟩
 | [],_::_,_,h=>by simp at h
 | _::_,[],_,h=>by simp at h
 | e::es,p::l,i,h=>by
  simp only[List.map_cons,List.cons.injEq,Prod.mk.injEq]at h
  obtain⟨⟨hk,hv⟩,ht⟩:=h
  rw[get?_cons]
  have hr:=eq_run k p.1 w
  rw[←hk]at hr
  by_cases hp:k=p.1
  ·rw[decide_eq_true hp]at hr
   exact .inr ⟨0,e,by simp[Instr.findAsking,hr,Result.andThen],rfl,by rw[hk,hp],by rw[if_pos hp.symm,hv]⟩
  ·rw[decide_eq_false hp]at hr
   rw[if_neg (Ne.symm hp)]
   have hne:e.key≠encM k:=fun q=>hp (encM_inj (q.symm.trans hk))
   rcases asking k w es l (i+1) ht with⟨h1,h2,h3⟩|⟨j,e',h1,h2,h3,h4⟩
   ·exact .inl ⟨by simp[Instr.findAsking,hr,h1,Result.andThen],h2,fun x hx=>by
     cases hx with
     | head=>exact hne
     | tail _ hx=>exact h3 x hx⟩
   ·exact .inr ⟨j+1,e',by simp[Instr.findAsking,hr,h1,Result.andThen];omega,by simpa using h2,h3,h4⟩
theorem find_spec (k:Int × Int) (w:World) (es:List MapEntry) (l:List ((Int × Int) × Value)) (h:es.map (fun e=>(e.key,e.val))=l.map (fun p=>(encM p.1,p.2))) :
  ((Instr.findKey 61 (encM k) es).run Try.prog w=.ok none w/\get? l k=none/\(∀ x∈es,x.key≠encM k)) ∨
  ∃ j e,(Instr.findKey 61 (encM k) es).run Try.prog w=.ok (some (j,e.val)) w/\es[j]?=some e/\e.key=encM k/\get? l k=some e.val:=by
 have ha:=asking k w es l 0 h
 cases es with
 | nil =>
  rcases ha with⟨_,h2,h3⟩|⟨j,e,_,h2,_⟩
  ·exact .inl ⟨by simp[Instr.findKey,run_underlying Try.underlying61,Instr.findNow,Result.andThen],h2,h3⟩
  ·simp at h2
 | cons e0 es =>
  have hn:∀ fs,Instr.findNow (.struct fs) (encM k) (e0::es) 0=none:=fun fs=>by simp[Instr.findNow,Instr.sameNow]
  have hf:(Instr.findKey 61 (encM k) (e0::es)).run Try.prog w=(Instr.findAsking 61 (encM k) (e0::es) 0).run Try.prog w:=by
   simp[Instr.findKey,run_underlying Try.underlying61,hn,Result.andThen]
  rw[hf]
  rcases ha with h1|⟨j,e,h1,h2⟩
  ·exact .inl h1
  ·exact .inr ⟨j,e,by rw[h1,Nat.zero_add],h2⟩
def getV (l:List ((Int × Int) × Value)) (k:Int × Int):Value:=(get? l k).getD (.int .i64 0)
theorem look {w:World} {b:Nat} {l:List ((Int × Int) × Value)} (h:Blk encM w b l) (k:Int × Int) :
  (Instr.lookup 53 (.map (some b)) (encM k) false).run Try.prog w=.ok (getV l k) w:=by
 obtain⟨es,clock,hb,hs,hl⟩:=h
 have hz:(zeroValue 3).run Try.prog w=.ok (.int .i64 0) w:=Z5
 rcases find_spec k w es.toList l hl with⟨h1,h2,h3⟩|⟨j,e,h1,h2,h3,h4⟩
 ·simp[Instr.lookup,run_underlying Try.underlying53,MapKept.run_getObj_map hb,check_run,h1,hz,h2,Result.andThen,getV]
 ·simp[Instr.lookup,run_underlying Try.underlying53,MapKept.run_getObj_map hb,check_run,h1,h4,Result.andThen,getV]
theorem entry {w:World} {b:Nat} {l:List ((Int × Int) × Value)} (h:Blk encM w b l) (k:Int × Int) :
  ∃ (z:Value) (n:Int) (w1:World),(Instr.mapEntry 53 (.map (some b)) (encM k)).run Try.prog w=.ok (.tuple #[z,.int .i64 n]) w1/\But b w w1/\(∃ l1,Blk encM w1 b l1/\getV l1 k=getV l k) ∧
   ∀ v,∃ w2,(Instr.entryStore 53 (.map (some b)) (.int .i64 n) v).run Try.prog w1=.ok () w2/\But b w1 w2/\Blk encM w2 b (put l k v):=by
 obtain⟨es,clock,hb,hs,hl⟩:=h
 have hz:(zeroValue 3).run Try.prog w=.ok (.int .i64 0) w:=Z5
 rcases find_spec k w es.toList l hl with⟨h1,h2,h3⟩|⟨j,e,h1,h2,h3,h4⟩
 ·have hs':=stamped_push (val:=.int .i64 0) hs h3
  refine⟨.int .i64 0,clock,{ w with heap:=w.heap.setIfInBounds b (.map (es.push { key:=encM k,val:=.int .i64 0,born:=clock }) (clock+1)) },by simp[Instr.mapEntry,run_underlying Try.underlying53,MapKept.run_getObj_map hb,check_run,h1,hz,run_setObj_map _ hb,Result.andThen,goInt],But.of_set _ _ _,?_⟩
  obtain⟨w1,hw1⟩:∃ w1:World,w1={ w with heap:=w.heap.setIfInBounds b (.map (es.push { key:=encM k,val:=.int .i64 0,born:=clock }) (clock+1)) }:=⟨_,rfl⟩
  rw[←hw1]
  have hb1:w1.heap[b]?=some (.map (es.push { key:=encM k,val:=.int .i64 0,born:=clock }) (clock+1)):=by rw[hw1];exact(heap_set (o':=.map (es.push { key:=encM k,val:=.int .i64 0,born:=clock }) (clock+1)) hb).1
  have hfind:(es.push { key:=encM k,val:=.int .i64 0,born:=clock }).findIdx? (fun e=>(e.born:Int)==(clock:Int))=some es.size:=by
   rw[Array.findIdx?_push]
   have:es.findIdx? (fun e=>(e.born:Int)==(clock:Int))=none:=by
    rw[Array.findIdx?_eq_none_iff]
    intro x hx
    have:=hs.1 x (Array.mem_toList_iff.2 hx)
    simp;omega
   simp[this]
  clear hw1
  refine⟨⟨l++[(k,.int .i64 0)],⟨_,_,hb1,hs',by rw[Array.toList_push];simp[hl]⟩,?_⟩,fun v=>?_⟩
  ·unfold getV
   rw[h2]
   unfold get? at h2 ⊢
   rw[List.find?_append,Option.map_eq_none_iff.1 h2]
   simp
  ·refine⟨{ w1 with heap:=w1.heap.setIfInBounds b (.map ((es.push { key:=encM k,val:=.int .i64 0,born:=clock }).modify es.size fun e=>{ e with val:=v }) (clock+1)) },by simp[Instr.entryStore,MapKept.run_getObj_map hb1,asInt,asIntOf,hfind,run_setObj_map _ hb1,Result.andThen],But.of_set _ _ _,⟨_,_,(heap_set hb1).1,stamped_modify hs' _ _ (fun _ _=>rfl) (fun _ _ _=>rfl),?_⟩⟩
   rw[Array.toList_modify,Array.toList_push,put_new h2]
   have:(es.toList++[({ key:=encM k,val:=.int .i64 0,born:=clock }:MapEntry)]).modify es.size (fun e=>{ e with val:=v })=es.toList++[{ key:=encM k,val:=v,born:=clock }]:=by
    have hlen:es.size=es.toList.length:=by simp
    rw[hlen]
    exact modify_last _ _ _
   rw[this];simp[hl]
 ·have hj:es[j]?=some e:=by simpa using h2
  have hst:=(stamped_iff es clock).1 hs
  obtain⟨hjl,hje⟩:=Array.getElem?_eq_some_iff.1 hj
  have hmod:es.modify j (fun x=>{ x with key:=encM k })=es:=by
   apply Array.ext_getElem?
   intro i
   rw[Array.getElem?_modify]
   split
   ·rename_i hij
    subst hij
    rw[hj,←h3]
    rfl
   ·rfl
  have hset:w.heap.setIfInBounds b (.map es clock)=w.heap:=by
   apply Array.ext_getElem?
   intro i
   rw[Array.getElem?_setIfInBounds]
   split
   ·rename_i hbi
    subst hbi
    split
    ·rw[hb]
    ·rename_i hx
     exact absurd (Array.getElem?_eq_some_iff.1 hb).1 hx
   ·rfl
  have hfind:es.findIdx? (fun x=>(x.born:Int)==(e.born:Int))=some j:=by
   rw[Array.findIdx?_eq_some_iff_getElem]
   refine⟨hjl,by rw[hje];simp,fun i hi=>?_⟩
   intro q
   have q':(es[i]'(Z0)).born=e.born:=by have:=beq_iff_eq.1 q;omega
   have hn:=List.pairwise_iff_getElem.1 hst.2.1 i j (Z1) (by simpa using hjl) hi
   exact hn (by simp[q',hje])
  refine⟨e.val,e.born,w,?_,⟨rfl,rfl,rfl,rfl,fun _ _=>rfl⟩,⟨l,⟨es,clock,hb,hs,hl⟩,rfl⟩,fun v=>?_⟩
  ·simp[Instr.mapEntry,run_underlying Try.underlying53,MapKept.run_getObj_map hb,check_run,h1,hj,h3,stays_run,Result.andThen,run_setObj_map _ hb,hmod,hset,goInt]
  ·refine⟨{ w with heap:=w.heap.setIfInBounds b (.map (es.modify j fun e=>{ e with val:=v }) clock) },by simp[Instr.entryStore,MapKept.run_getObj_map hb,asInt,asIntOf,hfind,run_setObj_map _ hb,Result.andThen],But.of_set _ _ _,⟨_,_,(heap_set hb).1,stamped_modify hs _ _ (fun _ _=>rfl) (fun _ _ _=>rfl),?_⟩⟩
   have hjk:(l.map (·.1))[j]?=some k:=by
    have h5:=congrArg (fun x:List (Value × Value)=>x[j]?) hl
    simp only[List.getElem?_map,h2,Option.map_some]at h5
    cases hlj:l[j]? with
    | none=>rw[hlj]at h5;simp at h5
    | some p =>
     rw[hlj]at h5
     simp only[Option.map_some,Option.some.injEq,Prod.mk.injEq]at h5
     simp only[List.getElem?_map,hlj,Option.map_some,Option.some.injEq]
     exact encM_inj (h5.1.symm.trans h3)
   have hnd:(l.map (·.1)).Nodup:=by
    have h1:es.toList.map (·.key)=l.map (fun p=>encM p.1):=by
     have:=congrArg (List.map (·.1)) hl
     rw[List.map_map,List.map_map]at this
     exact this
    have h2:=hs.2.2
    rw[h1]at h2
    have h3:(l.map (fun p=>encM p.1))=(l.map (·.1)).map encM:=by simp[List.map_map]
    rw[h3]at h2
    exact nodup_of_map _ _ h2
   rw[put,h4,if_pos (show (some e.val).isSome=true from rfl),←modify_key (l:=l) k v l j hnd hjk]
   rw[Array.toList_modify,list_modify _ _ (fun q:Value × Value=>(q.1,v)) _ _ (fun a ha=>rfl),hl,list_modify _ _ (fun q:Value × Value=>(q.1,v)) _ _ (fun _ _=>rfl)]
end Go.Proofs.Ythcpdiknejblnaa.Ta
