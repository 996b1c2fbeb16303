import Derived.RangeFuncNested
import Derived.RangeFuncBound
import Derived.RangeFuncCalls
import Derived.RangeFuncLeaves
import Derived.RangeFuncFrom
import Derived.Shelf.Abstract
import Derived.Shelf.RegionOpen
import Derived.WalkKit
import Derived.OwnWalkIn
import Derived.TacticsInMore
import Derived.LoopNIn
import Derived.LoopIn
import Derived.Test.YtkffhgiiejbnaaaGreatQAid
set_option linter.unusedVariables false
set_option linter.unusedSimpArgs false
namespace Go.Proofs.YtkffhgiiejbnaaaGreat.Rg
open Go.RowKit Go.Shelf Aid
def Round (n₀ b b2 r:Nat) (W W':World):Prop:=Below n₀ W W'/\W'.heap[b]?=W.heap[b]?/\W'.heap[b2]?=W.heap[b2]?/\W'.heap[r]?=W.heap[r]?
def Bears {α:Type} (B b:Nat) (I:List α->World->Prop):Prop :=
 ∀ pre W W' row,I pre W->W.grownBy W' row->(∀ r,row=some r->r=b\/(B≤r/\∃ o:Obj,W.heap[r]?=some o/\o.isCells=false))->I pre W'
def Yields {α:Type} (n:Nat) (P:Program) (gf:Nat) (lb:Array Value) (encs:α->Array Value) (n₀ b b2 r:Nat) (xs:List α) (w:World):Prop :=
 ∀ (l:Nat) (W1:World) (J:List α->World->Prop),Below w.heap.size w W1->(∀ pre W W' row,J pre W->W.grownBy W' row->(∀ r,row=some r->r=b)->J pre W') →
  (∀ pre x W,J pre W->pre++[x] <+: xs->YieldAt Fence.wide (n-1) P l (encs x) W fun e W'=>e=.returned (.bool true)/\J (pre++[x]) W'/\Round n₀ b b2 r W W') →
  J [] W1->CallsIn Fence.wide n P gf (#[.func (.yield l) #[] #[]]++lb) W1 fun e W'=>(∃ v,e=.returned v)/\J xs W'
theorem put_grown (W:World) (l:Nat) (o:Obj):W.grownBy (W.putObj l o) (some l):=grownBy_putObj' W l o
theorem round_put {n₀ b b2 r:Nat} {W:World} {l:Nat} (o:Obj) (h1:n₀≤l) (h2:b≠l) (h4:b2≠l) (h5:r≠l) (h3:n₀≤W.heap.size):Round n₀ b b2 r W (W.putObj l o) :=
 ⟨(Below.refl n₀ W).grown (put_grown W l o) h3 (fun k e=>by cases e;exact h1),World.putObj_heap_other h2,World.putObj_heap_other h4,World.putObj_heap_other h5⟩
theorem Round.trans {n₀ b b2 r:Nat} {A B C:World} (h:Round n₀ b b2 r A B) (k:Round n₀ b b2 r B C):Round n₀ b b2 r A C:=⟨h.1.trans k.1,k.2.1.trans h.2.1,k.2.2.1.trans h.2.2.1,k.2.2.2.trans h.2.2.2⟩
theorem range_all {P:Program} {α:Type} {g:Operand} {ps:Array Tmp} {assign body:Code} {Q:Exit->Act->World->Prop} {a:Act} {w:World} {n:Nat} {gf:Nat} {lb:Array Value}
  (hg:a.eval g=.func (.func gf) #[] lb) (eg:∀ args w,(callFunc gf args).run P w=.ok (.enter gf args) w)
  {encs:α->Array Value} (hps:∀ x,(encs x).size=ps.size) (xs:List α) (n₀ b b2 r:Nat) (hb:b<w.heap.size) (hb2:b2<w.heap.size) (hbr:r<w.heap.size) (hn₀:n₀≤w.heap.size)
  (hseq:Yields (n-1) P gf lb encs n₀ b b2 r xs w) (I:List α->World->Prop) (hI:Rg.Bears w.heap.size b I) (h0:I [] w) (a₁:α->Act)
  (hassign:∀ (l:Nat) (x:α) (W:World) (K:Act->World->Prop),K (a₁ x) W->assign.wpIn (Fence.wide.inRound l) (n-1-1) P (Exit.then K (fun _ _ _=>False)) { tmps:=(ps.zip (encs x)).foldl (fun t (p,v)=>t.setIfInBounds p v) a.tmps,defers:=[] } W)
  (hbody:∀ (l:Nat) (pre:List α) (x:α) (W:World),I pre W->pre++[x] <+: xs->body.wpIn (Fence.wide.inRound l) (n-1-1) P (fun e _ W'=>e=.normal/\KeepsOthers W W'/\Round n₀ b b2 r W W'/\I (pre++[x]) W') (a₁ x) W)
  (hdone:∀ (D:Nat) (W:World),w.heap.size≤D->I xs W->W.heap[D]?=some (.deferred (some []))->Q .normal { a with defers:={ target:=.collected D,args:=#[] }::a.defers } W) :
  (Code.rangeFunc g ps assign body).wpIn Fence.wide n P Q a w:=by
 refine wpIn_rangeFunc fun fn hfn=>?_
 obtain⟨rec,hrec⟩:∃ rec:LoopState->Option Code->Loop,rec=fun st pe=>{ state:=st,pending:=pe,fn,tmps:=a.tmps,params:=ps,assign,body,defers:=w.heap.size }:=⟨_,rfl⟩
 have hrun:=run_enterLoop_outer (P:=P) (w:=w) fn a.tmps ps assign body
 obtain⟨W1,hW1⟩:∃ W1,(w.alloc (.deferred (some []))).alloc (.loop (rec .ready none))=W1:=⟨_,rfl⟩
 have hl1:W1.heap[w.heap.size+1]?=some (.loop (rec .ready none)):=by
  rw[←hW1];have:=World.alloc_heap_new (w.alloc (.deferred (some []))) (.loop (rec .ready none));rwa [World.size_alloc]at this
 have hd1:W1.heap[w.heap.size]?=some (.deferred (some [])):=by
  rw[←hW1];exact(Below.heap_alloc _ _ _ (by simp)).trans (World.alloc_heap_new w _)
 have hb1:Below w.heap.size w W1:=by rw[←hW1];exact((Below.refl _ w).alloc (Nat.le_refl _) _).alloc (by simp) _
 have hi1:I [] W1:=hI [] w W1 none h0 ⟨hb1.os,hb1.tape,hb1.output,hb1.size,fun k hk _=>hb1.block k hk⟩ (fun r e=>by cases e)
 have hbn:b≠w.heap.size+1:=by omega
 have hbn2:b2≠w.heap.size+1:=by omega
 have hbn3:r≠w.heap.size+1:=by omega
 refine⟨w.heap.size+1,[{ target:=.collected w.heap.size,args:=#[] }],W1,{ target:=.fn (.func gf) lb,args:=#[.func (.yield (w.heap.size+1)) #[] #[]] },W1,gf,#[.func (.yield (w.heap.size+1)) #[] #[]]++lb,W1,?_,?_,fun _ _=>trivial,?_,(fun h=>by cases h),?_⟩
 ·show (Instr.enterLoop fn a.tmps ps assign body none).run P w=_
  rw[hrun,←hW1,hrec]
 ·simp only[resolve,hg]
  simp[go_sem]
 ·simp[invoke,go_sem,eg]
 ·have hturn:∀ (pre:List α) (W:World) (st:LoopState) (o:Obj),I pre W->W.heap[w.heap.size+1]?=some (.loop (rec st none))->I pre (W.putObj (w.heap.size+1) o):=fun pre W st o hi hl =>
   hI pre W _ _ hi (put_grown W _ o) (fun r e=>by cases e;exact .inr ⟨Nat.le_succ _,_,hl,rfl⟩)
  refine(hseq (w.heap.size+1) W1 (fun pre W=>I pre W/\W.heap[w.heap.size+1]?=some (.loop (rec .ready none))/\W.heap[w.heap.size]?=some (.deferred (some []))) hb1 ?_ ?_ ⟨hi1,hl1,hd1⟩).mono ?_
  ·intro pre W W' row hJ hgr hr
   have hk:∀ k,k<W.heap.size->k≠b->W'.heap[k]?=W.heap[k]?:=fun k hk hne=>hgr.block k hk (fun e=>hne (hr k e.symm))
   have hlt:w.heap.size+1<W.heap.size:=(Array.getElem?_eq_some_iff.1 hJ.2.1).1
   exact⟨hI pre W W' row hJ.1 hgr (fun r e=>.inl (hr r e)),(hk _ hlt (Ne.symm hbn)).trans hJ.2.1,(hk _ (by omega) (by omega)).trans hJ.2.2⟩
  ·rintro pre x W ⟨hi,hl,hd⟩ hx
   have hlt:w.heap.size+1<W.heap.size:=(Array.getElem?_eq_some_iff.1 hl).1
   have hy:=run_yield (P:=P) (args:=encs x) hl (by rw[hrec];exact hps x)
   rw[hrec]at hy
   refine⟨fn,_,assign,body,hy,roundIn_of_wpIn hfn (hassign _ x W _ ⟨_,run_beginRound hl (by rw[hrec]),?_⟩)⟩
   obtain⟨Wb,hWb⟩:∃ Wb,Wb=W.putObj (w.heap.size+1) (.loop { rec .ready none with state:=.busy }):=⟨_,rfl⟩
   rw[←hWb]
   have hlb:Wb.heap[w.heap.size+1]?=some (.loop (rec .busy none)):=by rw[hWb,hrec];exact World.putObj_heap_same hlt
   have hdb:Wb.heap[w.heap.size]?=some (.deferred (some [])):=by rw[hWb];exact(World.putObj_heap_other (by omega)).trans hd
   have hrb:Round n₀ b b2 r W Wb:=by rw[hWb];exact round_put _ (by omega) hbn hbn2 hbn3 (by omega)
   refine wpIn_mono (hbody _ pre x Wb (by rw[hWb];exact hturn pre W _ _ hi hl) hx) ?_
   rintro e a3 W3 ⟨rfl,hk3,hr3,hi3⟩
   have hl3:=hk3.same _ _ hlb rfl
   have hd3:=hk3.same _ _ hdb rfl
   have hlt3:w.heap.size+1<W3.heap.size:=(Array.getElem?_eq_some_iff.1 hl3).1
   have hend:=run_endRound (P:=P) (none:Option Code) hl3
   rw[hrec]at hend
   refine⟨_,_,hend,rfl,⟨?_,?_,?_⟩,?_⟩
   ·exact hturn _ W3 .busy _ hi3 hl3
   ·rw[hrec];exact World.putObj_heap_same hlt3
   ·exact(World.putObj_heap_other (by omega)).trans hd3
   ·exact(hrb.trans hr3).trans (round_put _ (by omega) hbn hbn2 hbn3 (by omega))
  ·rintro e W2 ⟨⟨v,rfl⟩,hi,hl,hd⟩
   have hend:=run_endLoop (P:=P) hl (by rw[hrec];simp)
   rw[hrec]at hend
   exact⟨none,_,hend,hdone _ _ (Nat.le_refl _) (hturn _ W2 .ready _ hi hl) ((World.putObj_heap_other (by omega)).trans hd)⟩
end Go.Proofs.YtkffhgiiejbnaaaGreat.Rg
