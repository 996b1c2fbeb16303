import Derived.Maps.RangeRun
import Derived.Maps.RangeWalk
import Derived.Maps.OwnSet
import Derived.Test.YthcpdiknejblnaaQeMap
import Derived.Test.YthcpdiknejblnaaQe01
set_option linter.unusedVariables false
set_option linter.unusedSimpArgs false
namespace Go.Proofs.Ythcpdiknejblnaa.Ta
open Go Go.MapKept Go.RowKit Go.ChangeMaps Mp
set_option linter.unusedSectionVars false
variable {κ:Type} [DecidableEq κ]
def Blk (enc:κ->Value) (w:World) (b:Nat) (l:List (κ × Value)):Prop :=
 ∃ es clock,w.heap[b]?=some (.map es clock)/\Stamped es clock/\es.toList.map (fun e=>(e.key,e.val))=l.map (fun p=>(enc p.1,p.2))
theorem Blk.of_block {enc:κ->Value} {w w':World} {b:Nat} {l:List (κ × Value)} (h:Blk enc w b l) (hb:w'.heap[b]?=w.heap[b]?):Blk enc w' b l:=by
 obtain⟨es,clock,h1,h2,h3⟩:=h
 exact⟨es,clock,hb.trans h1,h2,h3⟩
theorem Blk.lt {enc:κ->Value} {w:World} {b:Nat} {l:List (κ × Value)} (h:Blk enc w b l):b<w.heap.size:=by
 obtain⟨es,clock,h1,_⟩:=h
 exact(Array.getElem?_eq_some_iff.1 h1).1
theorem Blk.below {enc:κ->Value} {w w':World} {b:Nat} {l:List (κ × Value)} (h:Blk enc w b l) (hb:Below w.heap.size w w'):Blk enc w' b l:=h.of_block (hb.block _ h.lt)
theorem Blk.made (enc:κ->Value) (w:World):Blk enc (w.alloc (.map #[] 0)) w.heap.size ([]:List (κ × Value)):=⟨#[],0,(heap_alloc w _).1,stamped_empty 0,rfl⟩
theorem Blk.ne_cells {enc:κ->Value} {w:World} {b d t:Nat} {l:List (κ × Value)} {cs:Array Value} (h:Blk enc w b l) (hd:w.heap[d]?=some (.cells cs t (0,0))):b≠d:=by
 rintro rfl
 obtain⟨es,clock,h1,_⟩:=h
 rw[h1]at hd
 cases hd
theorem Blk.size {enc:κ->Value} {w:World} {b:Nat} {l:List (κ × Value)} (h:Blk enc w b l):∃ es clock,w.heap[b]?=some (.map es clock)/\es.size=l.length:=by
 obtain⟨es,clock,h1,h2,h3⟩:=h
 refine⟨es,clock,h1,?_⟩
 have:=congrArg List.length h3
 simpa using this
theorem Blk.len {enc:κ->Value} {w:World} {b:Nat} {l:List (κ × Value)} (h:Blk enc w b l) (P:Program) (t k e:TypeId) (ht:P.underlying t=some (.map k e)) (ty:TypeId):(Builtin.len_ #[t] ty #[.map (some b)]).run P w=.ok (.int .i64 (l.length:Int)) w:=by
 obtain⟨es,clock,h1,h2⟩:=h.size
 simp[Builtin.len_,run_underlying ht,MapKept.run_getObj_map h1,goInt,Result.andThen,h2]
def Rg (enc:κ->Value) (w:World) (b r:Nat) (rest:List (κ × Value)):Prop :=
 ∃ es clock since seen c0,w.heap[b]?=some (.map es clock)/\Stamped es clock/\w.heap[r]?=some (.mapIter (some b) since seen c0)/\(∀ x∈es.toList,x.born<since)/\since≤c0/\since≤clock/\(leftOf es seen).toList.map (fun e=>(e.key,e.val))=rest.map (fun p=>(enc p.1,p.2))
theorem Rg.of_blocks {enc:κ->Value} {w w':World} {b r:Nat} {rest:List (κ × Value)} (h:Rg enc w b r rest) (hb:w'.heap[b]?=w.heap[b]?) (hr:w'.heap[r]?=w.heap[r]?):Rg enc w' b r rest:=by
 obtain⟨es,clock,since,seen,c0,h1,h2,h3,h4⟩:=h
 exact⟨es,clock,since,seen,c0,hb.trans h1,h2,hr.trans h3,h4⟩
theorem Rg.lt {enc:κ->Value} {w:World} {b r:Nat} {rest:List (κ × Value)} (h:Rg enc w b r rest):b<w.heap.size/\r<w.heap.size:=by
 obtain⟨es,clock,since,seen,c0,h1,h2,h3,h4⟩:=h
 exact⟨(Array.getElem?_eq_some_iff.1 h1).1,(Array.getElem?_eq_some_iff.1 h3).1⟩
theorem Rg.below {enc:κ->Value} {w w':World} {b r:Nat} {rest:List (κ × Value)} (h:Rg enc w b r rest) (hb:Below w.heap.size w w'):Rg enc w' b r rest:=h.of_blocks (hb.block _ h.lt.1) (hb.block _ h.lt.2)
theorem Blk.range {P:Program} {enc:κ->Value} {w:World} {b:Nat} {l:List (κ × Value)} (h:Blk enc w b l) {t k e:TypeId} (ht:P.underlying t=some (.map k e)) :
  ∃ o,(Instr.range t (.map (some b))).run P w=.ok (.pointer (some ⟨w.heap.size,0,none⟩)) (w.alloc o)/\Rg enc (w.alloc o) b w.heap.size l:=by
 have hlt:=h.lt
 obtain⟨es,clock,hb,hs,hl⟩:=h
 refine⟨.mapIter (some b) clock #[] clock,run_range_map w t k e b es clock ht hb,es,clock,clock,#[],clock,((heap_alloc w _).2 b hlt).trans hb,hs,(heap_alloc w _).1,hs.1,Nat.le_refl _,Nat.le_refl _,?_⟩
 rw[←hl]
 congr 1
 simp[leftOf]
theorem map_split {α β γ:Type} {f:α->γ} {g:β->γ}:∀ {la:List α} {lb:List β},la.map f=lb.map g->∀ {A B:List α} {x:α},la=A++x::B->∃ A' y B',lb=A'++y::B'/\A.map f=A'.map g/\f x=g y/\B.map f=B'.map g
 | _,[],h,A,B,x,e=>by subst e;simp at h
 | _,y::lb,h,[],B,x,e=>by
  subst e
  simp only[List.nil_append,List.map_cons,List.cons.injEq]at h
  exact⟨[],y,lb,rfl,rfl,h.1,h.2⟩
 | _,y::lb,h,a::A,B,x,e=>by
  subst e
  simp only[List.cons_append,List.map_cons,List.cons.injEq]at h
  obtain⟨A',z,B',h1,h2,h3,h4⟩:=map_split (la:=A++x::B) (lb:=lb) (by simpa using h.2) rfl
  exact⟨y::A',z,B',by rw[h1];rfl,by rw[List.map_cons,List.map_cons,h.1,h2],h3,h4⟩
theorem filter_out {A B:List MapEntry} {e:MapEntry} (hn:((A++e::B).map (·.born)).Nodup):(A++e::B).filter (fun x=>!(x.born==e.born))=A++B:=by
 rw[List.map_append,List.map_cons,List.nodup_append]at hn
 obtain⟨h1,h2,h3⟩:=hn
 rw[List.filter_append,List.filter_cons]
 rw[List.filter_eq_self.2 (fun x hx=>by
  have:=h3 x.born (List.mem_map.2 ⟨x,hx,rfl⟩) e.born (by simp)
  simpa using this),if_neg (by simp)]
 congr 1
 refine List.filter_eq_self.2 (fun x hx=>?_)
 have h4:=(List.nodup_cons.1 h2).1
 simp only[Bool.not_eq_true',beq_eq_false_iff_ne,ne_eq]
 intro q
 exact h4 (by rw[←q];exact List.mem_map.2 ⟨x,hx,rfl⟩)
theorem Rg.next {P:Program} {enc:κ->Value} {w:World} {b r:Nat} {rest:List (κ × Value)} (h:Rg enc w b r rest) (ty:TypeId) :
  (rest=[]/\(Instr.next (.pointer (some ⟨r,0,none⟩)) false ty).run P w=.ok (.tuple #[.bool false]) w) ∨
  ∃ p A B w',rest=A++p::B/\(Instr.next (.pointer (some ⟨r,0,none⟩)) false ty).run P w=.ok (.tuple #[.bool true,enc p.1,p.2]) w'/\Rg enc w' b r (A++B)/\w.grownBy w' (some r)/\w'.heap.size=w.heap.size ∧
   (Instr.entry (.pointer (some ⟨r,0,none⟩))).run P w'=.ok (.tuple #[enc p.1,p.2]) w':=by
 obtain⟨es,clock,since,seen,c0,hb,hs,hr,hold,hsc,hsk,hl⟩:=h
 have hne:r≠b:=by
  rintro rfl
  rw[hr]at hb
  cases hb
 rcases run_next_at (P:=P) w ty r b since c0 seen es clock hr hb hold hsc with⟨h0,hrun⟩|⟨e,he,w1,hal,hrun⟩
 ·refine .inl ⟨?_,hrun⟩
  have:=congrArg List.length hl
  rw[List.length_map,List.length_map]at this
  exact List.length_eq_zero_iff.1 (by rw[←this];simpa using h0)
 ·have hr1:w1.heap[r]?=some (.mapIter (some b) since seen c0):=by rcases hal with rfl|rfl <;> exact hr
  have hb1:w1.heap[b]?=some (.map es clock):=by rcases hal with rfl|rfl <;> exact hb
  have hset:=heap_set (o':=.mapIter (some b) since (seen.push e.born) clock) hr1
  have hb':(setBlock w1 r (.mapIter (some b) since (seen.push e.born) clock)).heap[b]?=some (.map es clock):=(hset.2 b (fun e1=>hne e1.symm)).trans hb1
  obtain⟨A0,B0,hAB⟩:=List.append_of_mem he
  obtain⟨A,p,B,e1,e2,e3,e4⟩:=map_split hl hAB
  have hst:=(stamped_iff es clock).1 hs
  have hem:e∈es.toList:=(mem_left he).1
  injection e3 with e3a e3b
  refine .inr ⟨p,A,B,_,e1,by rw[←e3a,←e3b];exact hrun,⟨es,clock,since,seen.push e.born,clock,hb',hs,hset.1,hold,hsk,hsk,?_⟩,?_,?_,by rw[←e3a,←e3b];exact run_entry_at _ r b since seen es clock e hset.1 hb' hem hst.2.1⟩
  ·have hn:((leftOf es seen).toList.map (·.born)).Nodup:=by
    have h1:(leftOf es seen).toList=es.toList.filter (fun x=>!seen.contains x.born):=by unfold leftOf;rw[Array.toList_filter]
    rw[h1]
    exact List.Sublist.nodup (List.Sublist.map _ (List.filter_sublist)) hst.2.1
   rw[hAB]at hn
   have h2:(leftOf es (seen.push e.born)).toList=(leftOf es seen).toList.filter (fun x=>!(x.born==e.born)):=by
    unfold leftOf
    rw[Array.toList_filter,Array.toList_filter,List.filter_filter]
    congr 1
    funext x
    rw[contains_push]
    cases seen.contains x.born <;> cases (x.born==e.born) <;> rfl
   rw[h2,hAB,filter_out hn,List.map_append,List.map_append,e2,e4]
  ·rcases hal with rfl|rfl <;> exact⟨rfl,rfl,rfl,by simp[setBlock],fun i _ hi=>hset.2 i (fun e1=>hi (by rw[e1]))⟩
  ·rcases hal with rfl|rfl <;> simp[setBlock]
section
variable {P:Program} (w:World) {ops:Array Oper} {tl:List Oper} {o:Oper} {a:Act} {Q:Exit->Act->World->Prop}
theorem wpList_range_blk {enc:κ->Value} {b:Nat} {l:List (κ × Value)} (hg:o.guard=none) (m:Operand) (t:TypeId) (hop:o.op=Op.range t m) (k e:TypeId) (ht:P.underlying t=some (.map k e)) (hm:a.eval m=.map (some b)) (h:Blk enc w b l)
  (hK:∀ ob,Rg enc (w.alloc ob) b w.heap.size l->wpList P ops Q tl (a.put o.dst (.pointer (some ⟨w.heap.size,0,none⟩))) (w.alloc ob)) :
  wpList P ops Q (o::tl) a w:=by
 refine wpList_plain hg fun K' hK'=>?_
 obtain⟨ob,hrun,r1⟩:=h.range (P:=P) ht
 unfold Oper.wp
 simp[execOp,hop,hm,hrun,Result.andThen]
 exact hK' _ _ (hK ob r1)
theorem wpList_len_blk {enc:κ->Value} {b:Nat} {l:List (κ × Value)} (hg:o.guard=none) (m:Operand) (t:TypeId) (hop:o.op=Op.call { callee:=Callee.builtin Builtin.len,args:=#[m],argTypes:=#[t] }) (k e:TypeId) (ht:P.underlying t=some (.map k e)) (hm:a.eval m=.map (some b)) (h:Blk enc w b l)
  (hK:wpList P ops Q tl (a.put o.dst (.int .i64 (l.length:Int))) w):wpList P ops Q (o::tl) a w:=by
 refine wpList_plain hg fun K' hK'=>?_
 unfold Oper.wp
 simp[execOp,hop,resolve,invoke,builtin,hm,h.len P t k e ht o.type,Result.andThen]
 exact hK' _ _ hK
theorem wpList_next_rg {enc:κ->Value} {b r:Nat} {rest:List (κ × Value)} (hg:o.guard=none) (it:Operand) (hop:o.op=Op.next it false) (hit:a.eval it=.pointer (some ⟨r,0,none⟩)) (h:Rg enc w b r rest)
  (hDone:rest=[]->wpList P ops Q tl (a.put o.dst (.tuple #[.bool false])) w)
  (hMore:∀ p A B w',rest=A++p::B->Rg enc w' b r (A++B)->w.grownBy w' (some r)->w'.heap.size=w.heap.size->(Instr.entry (.pointer (some ⟨r,0,none⟩))).run P w'=.ok (.tuple #[enc p.1,p.2]) w'->wpList P ops Q tl (a.put o.dst (.tuple #[.bool true,enc p.1,p.2])) w') :
  wpList P ops Q (o::tl) a w:=by
 refine wpList_plain hg fun K' hK'=>?_
 unfold Oper.wp
 rcases h.next (P:=P) o.type with⟨h0,hrun⟩|⟨p,A,B,w',e1,hrun,hrg,hgr,hsz,hen⟩
 ·simp[execOp,hop,hit,hrun,Result.andThen]
  exact hK' _ _ (hDone h0)
 ·simp[execOp,hop,hit,hrun,Result.andThen]
  exact hK' _ _ (hMore p A B w' e1 hrg hgr hsz hen)
end
end Go.Proofs.Ythcpdiknejblnaa.Ta
