import Derived.OrdersIn
import Derived.Test.YtkffhgiiejbnaaaGreatQRng
import Derived.Test.YtkffhgiiejbnaaaGreatQHp
set_option linter.unusedVariables false
set_option linter.unusedSimpArgs false
namespace Go.Proofs.YtkffhgiiejbnaaaGreat.Rg
open Go.RowKit Go.Shelf YtkffhgiiejbnaaaGreatW.PrintWords YtkffhgiiejbnaaaGreatW.PrintLast YtkffhgiiejbnaaaGreatW.PrintMore Aid
def noDefer (ops:Array Oper):Bool:=ops.all fun o=>match o.op with|.defer _=>false|_=>true
theorem noDefer_spec {ops:Array Oper} (h:noDefer ops=true) (j:Nat) (o:Oper) (ho:ops[j]?=some o) (c:Call):o.op≠.defer c:=by
 intro heq
 have:=Array.all_eq_true_iff_forall_mem.1 h o (Array.mem_of_getElem? ho)
 simp[heq]at this
theorem rows_wide {l n:Nat} {P:Program} {row:String} {args:Array Value} {w:World} {R:Value->World->Prop} (h:Rows P row args w R):RowsIn (Fence.wide.inRound l) n P row args w R :=
 fun c cs _=>let ⟨v,w',r,s⟩:=h c cs;⟨v,w',r,stepsIn_wide.2 s⟩
theorem calls_wide {l n:Nat} {P:Program} {f:FuncId} {args:Array Value} {w:World} {R:Ending->World->Prop} (h:Calls P f args w R):CallsIn (Fence.wide.inRound l) n P f args w R :=
 CallsIn.inRound l (callsIn_wide.2 h)
theorem no_depth (l n:Nat):(Fence.wide.inRound l).depth.isSome=true->1≤n:=fun h=>by cases h
theorem op_in {l n:Nat} {P:Program} {o:Oper} {a:Act} {w:World} {K:Act->World->Prop} {Q:Exit->Act->World->Prop} (hd:∀ c,o.op≠.defer c) (h:o.wp P a w K Q):o.wpIn (Fence.wide.inRound l) n P a w K Q:=by
 refine⟨fun _ _=>trivial,?_⟩
 rw[Oper.semAt_eq _ _ _ hd]
 unfold Oper.wp at h
 generalize (execOp a.eval o).run P w=r at *
 cases r with
 | ok x w' =>
  cases x <;> simp only[Oper.upon,Oper.uponIn]at h ⊢ <;>
   first
    | exact h
    | exact⟨no_depth l n,(calls_wide h).mono (fun e w'' he=>by cases e <;> exact he)⟩
    | exact⟨no_depth l n,rows_wide h⟩
 | halt x w'=>cases x <;> simp only[Oper.upon,Oper.uponIn]at h ⊢ <;> exact h
theorem wpOp_in {l n:Nat} {P:Program} {ops:Array Oper} {i:Nat} {a:Act} {w:World} {K K':Act->World->Prop} {Q:Exit->Act->World->Prop} (hd:noDefer ops=true) (hQ:¬ LetsOut Q) (hK:∀ a w,K a w->K' a w)
  (h:wpOp P ops Q i K a w):wpOpIn (Fence.wide.inRound l) n P ops Q i K' a w:=by
 unfold wpOp at h
 unfold wpOpIn
 cases ho:ops[i]? with
 | none=>simp only[ho]at h ⊢;exact hK _ _ h
 | some o =>
  simp only[ho]at h ⊢
  split at h
  ·rename_i hw
   rw[if_pos hw]
   rcases h with h|⟨_,h⟩
   ·exact Oper.wpIn_mono hK (op_in (noDefer_spec hd i o ho) h)
   ·exact absurd h hQ
  ·rename_i hw
   rw[if_neg hw]
   exact⟨fun _ _=>trivial,hK _ _ h⟩
theorem any_in {l n:Nat} {P:Program} {md:Region.Mode} {ops:Array Oper} {Q:Exit->Act->World->Prop} (hd:noDefer ops=true) (hQ:¬ LetsOut Q) :
  ∀ (fuel:Nat) (listed:Array Bool) (a:Act) (w:World),wpAny P md ops Q fuel listed a w->wpAnyIn (Fence.wide.inRound l) n P md ops Q fuel listed a w
 | 0,_,_,_,h=>h
 | fuel+1,_,_,_,h=>⟨h.1,fun i hi=>wpOp_in hd hQ (fun a w=>any_in hd hQ fuel _ a w) (h.2 i hi)⟩
theorem startR_ {rl rn:Nat} {P:Program} {ops:Array Oper} {Q:Exit->Act->World->Prop} {S:World->Prop} {ds:List Nat} {id n:Nat} {a:Act} {w:World} (hd:noDefer ops=true) (hQ:¬ LetsOut Q) (l:Array Bool) (hm:P.follows .mixedOrders=true) (hn:ops.size=n) (hl:Array.replicate n false=l) (hS:S w.drew)
  (h:S w.drew->wpAnyLast P .any ops Q S ds n l a w.drew):(Code.region id ops true).wpIn (Fence.wide.inRound rl) rn P Q a w:=by
 subst hn
 subst hl
 exact wpIn_region_any hm (any_in hd hQ _ _ _ _ (wpAny_of_last _ _ _ _ (h hS)))
end Go.Proofs.YtkffhgiiejbnaaaGreat.Rg
