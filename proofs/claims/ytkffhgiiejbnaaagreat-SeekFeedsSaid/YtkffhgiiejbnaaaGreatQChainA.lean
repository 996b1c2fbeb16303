import Derived.Test.YtkffhgiiejbnaaaGreatQAid
import Derived.Test.YtkffhgiiejbnaaaGreatQHp
import Derived.Test.YtkffhgiiejbnaaaGreatQChainP
import Derived.Test.YtkffhgiiejbnaaaGreatQTokE
set_option maxRecDepth 100000
set_option maxHeartbeats 400000
set_option linter.unusedVariables false
set_option linter.unusedSimpArgs false
set_option linter.unnecessarySimpa false
namespace Go.Proofs.YtkffhgiiejbnaaaGreat.Hq
structure Th (α:Type) where
 r:Int
 p:Int
 t:Int
 x:α
variable {α:Type}
def lessT (a b:Th α):Bool:=if a.r≠b.r then decide (a.r<b.r) else if a.p≠b.p then decide (a.p<b.p) else decide (a.t<b.t)
theorem less_iff (a b:Th α):lessT a b=true↔a.r<b.r\/(a.r=b.r/\(a.p<b.p\/(a.p=b.p/\a.t<b.t))):=by
 unfold lessT;split
 ·simp;omega
 ·split
  ·simp;omega
  ·simp;omega
def Le (a b:Th α):Prop:=lessT b a=false
theorem le_iff (a b:Th α):Le a b↔¬ (b.r<a.r\/(b.r=a.r/\(b.p<a.p\/(b.p=a.p/\b.t<a.t)))):=by
 unfold Le;rw[←less_iff];simp
theorem Le.refl (a:Th α):Le a a:=by rw[le_iff];omega
theorem Le.trans {a b c:Th α} (h:Le a b) (k:Le b c):Le a c:=by rw[le_iff]at *;omega
theorem Le.of_less {a b:Th α} (h:lessT a b=true):Le a b:=by rw[less_iff]at h;rw[le_iff];omega
def swapL (l:List (Th α)) (i k:Nat):List (Th α):=if h:i<l.length/\k<l.length then (l.set i (l[k]'h.2)).set k (l[i]'h.1) else l
theorem swap_len (l:List (Th α)) (i k:Nat):(swapL l i k).length=l.length:=by unfold swapL;split <;> simp
theorem swap_get {l:List (Th α)} {i k:Nat} (hi:i<l.length) (hk:k<l.length) (j:Nat):(swapL l i k)[j]?=if j=k then l[i]? else if j=i then l[k]? else l[j]?:=by
 unfold swapL
 simp only[hi,hk,and_self,dite_true]
 rw[List.getElem?_set,List.getElem?_set]
 by_cases e:k=j
 ·subst e;simp[hi,hk]
 ·rw[if_neg e,if_neg (Ne.symm e)]
  by_cases e2:i=j
  ·subst e2;simp[hi,hk]
  ·rw[if_neg e2,if_neg (Ne.symm e2)]
theorem swap_perm {l:List (Th α)} {i k:Nat}:(swapL l i k).Perm l:=by
 unfold swapL
 split
 ·rename_i h
  exact List.set_set_perm h.1 h.2
 ·exact List.Perm.refl _
def Rel (l:List (Th α)) (i j:Nat):Prop:=∀ x y,l[i]?=some x->l[j]?=some y->Le x y
theorem Rel.trans {l:List (Th α)} {i j k:Nat} (hj:j<l.length) (h:Rel l i j) (h2:Rel l j k):Rel l i k:=fun x y hx hy=>(h x _ hx (List.getElem?_eq_getElem hj)).trans (h2 _ y (List.getElem?_eq_getElem hj) hy)
theorem Rel.refl (l:List (Th α)) (i:Nat):Rel l i i:=fun x y hx hy=>by rw[hx]at hy;injection hy with h;subst h;exact Le.refl _
theorem Rel.out {l:List (Th α)} {i j:Nat} (h:l.length≤j):Rel l i j:=fun x y hx hy=>by rw[List.getElem?_eq_none h]at hy;cases hy
def Heap (l:List (Th α)):Prop:=∀ j,0<j->Rel l ((j-1) / 2) j
def UpInv (l:List (Th α)) (k:Nat):Prop:=(∀ j,0<j->j≠k->Rel l ((j-1) / 2) j)/\(∀ c,0<c->(c-1) / 2=k->0<k->Rel l ((k-1) / 2) c)
theorem up_done {l:List (Th α)} {k:Nat} (h:UpInv l k) (hk:k=0\/Rel l ((k-1) / 2) k):Heap l:=fun j hj=>by
 by_cases e:j=k
 ·subst e
  rcases hk with hk|hk
  ·omega
  ·exact hk
 ·exact h.1 j hj e
theorem up_step {l:List (Th α)} {k:Nat} (h:UpInv l k) (hk:k<l.length) (h0:0<k) (hl:Rel l k ((k-1) / 2)):UpInv (swapL l k ((k-1) / 2)) ((k-1) / 2):=by
 have ho:(k-1) / 2<l.length:=Z1
 have hne:(k-1) / 2≠k:=Z1
 refine⟨fun j hj hjo=>?_,fun c hc hco ho0=>?_⟩
 ·intro x y hx hy
  rw[swap_get hk ho]at hx hy
  by_cases e1:j=k
  ·subst e1
   rw[if_pos rfl]at hx
   rw[if_neg (Ne.symm hne),if_pos rfl]at hy
   exact hl x y hx hy
  ·rw[if_neg hjo,if_neg e1]at hy
   by_cases e2:(j-1) / 2=(k-1) / 2
   ·rw[if_pos e2]at hx
    have h1:=h.1 j hj e1
    rw[e2]at h1
    exact(hl.trans ho h1) x y hx hy
   ·rw[if_neg e2]at hx
    by_cases e3:(j-1) / 2=k
    ·rw[if_pos e3]at hx
     exact h.2 j hj e3 h0 x y hx hy
    ·rw[if_neg e3]at hx
     exact h.1 j hj e1 x y hx hy
 ·intro x y hx hy
  rw[swap_get hk ho]at hx hy
  have e0:((k-1) / 2-1) / 2≠(k-1) / 2:=Z1
  have e1:((k-1) / 2-1) / 2≠k:=Z1
  rw[if_neg e0,if_neg e1]at hx
  have hg:=h.1 ((k-1) / 2) ho0 hne
  by_cases e2:c=k
  ·subst e2
   rw[if_neg (Ne.symm hne),if_pos rfl]at hy
   exact hg x y hx hy
  ·have e3:c≠(k-1) / 2:=by omega
   rw[if_neg e3,if_neg e2]at hy
   have h1:=h.1 c hc e2
   rw[hco]at h1
   exact(hg.trans ho h1) x y hx hy
theorem push_inv {l:List (Th α)} {x:Th α} (h:Heap l):UpInv (l++[x]) l.length:=by
 refine⟨fun j hj hjk a b ha hb=>?_,fun c hc hck hk a b ha hb=>?_⟩
 ·have hjl:j<l.length:=by
   rcases Nat.lt_or_ge j l.length with h|h
   ·exact h
   ·rw[List.getElem?_eq_none (Z6)]at hb;cases hb
  rw[List.getElem?_append_left hjl]at hb
  rw[List.getElem?_append_left (Z1)]at ha
  exact h j hj a b ha hb
 ·rw[List.getElem?_eq_none (Z6)]at hb;cases hb
def DownInv (l:List (Th α)) (k:Nat):Prop:=(∀ j,0<j->(j-1) / 2≠k->Rel l ((j-1) / 2) j)/\(∀ c,0<c->(c-1) / 2=k->0<k->Rel l ((k-1) / 2) c)
def pickF (l:List (Th α)) (k m:Nat):Nat:=match l[k]?,l[m]? with
 | some x,some y=>if lessT x y=true then k else m
 | _,_=>m
theorem pick_spec {l:List (Th α)} {k m:Nat} (hm:m<l.length):pickF l k m<l.length/\(pickF l k m=k\/pickF l k m=m)/\Rel l (pickF l k m) k/\Rel l (pickF l k m) m:=by
 unfold pickF
 by_cases hk:k<l.length
 ·rw[List.getElem?_eq_getElem hk,List.getElem?_eq_getElem hm]
  by_cases hl:lessT l[k] l[m]=true
  ·simp only[hl,if_true]
   refine⟨hk,.inl trivial,Rel.refl _ _,fun x y hx hy=>?_⟩
   rw[List.getElem?_eq_getElem hk]at hx
   rw[List.getElem?_eq_getElem hm]at hy
   injection hx with hx;injection hy with hy;subst hx;subst hy
   exact Le.of_less hl
  ·have hl':=Bool.eq_false_iff.2 hl
   simp only[hl',Bool.false_eq_true,if_false]
   refine⟨hm,.inr trivial,fun x y hx hy=>?_,Rel.refl _ _⟩
   rw[List.getElem?_eq_getElem hm]at hx
   rw[List.getElem?_eq_getElem hk]at hy
   injection hx with hx;injection hy with hy;subst hx;subst hy
   exact hl'
 ·rw[List.getElem?_eq_none (Z1)]
  exact⟨hm,.inr rfl,Rel.out (Z1),Rel.refl _ _⟩
def leastF (l:List (Th α)) (i:Nat):Nat:=pickF l (2 * i+2) (pickF l (2 * i+1) i)
theorem least_spec {l:List (Th α)} {i:Nat} (hi:i<l.length):leastF l i<l.length/\(leastF l i=i\/leastF l i=2 * i+1\/leastF l i=2 * i+2)/\Rel l (leastF l i) i/\Rel l (leastF l i) (2 * i+1)/\Rel l (leastF l i) (2 * i+2):=by
 obtain⟨a1,a2,a3,a4⟩:=pick_spec (k:=2 * i+1) hi
 obtain⟨b1,b2,b3,b4⟩:=pick_spec (k:=2 * i+2) a1
 refine⟨b1,?_,b4.trans a1 a4,b4.trans a1 a3,b3⟩
 show pickF l (2 * i+2) (pickF l (2 * i+1) i)=_\/_
 rcases b2 with b2|b2
 ·exact .inr (.inr b2)
 ·rcases a2 with a2|a2
  ·exact .inr (.inl (b2.trans a2))
  ·exact .inl (b2.trans a2)
theorem down_done {l:List (Th α)} {k:Nat} (h:DownInv l k) (h1:Rel l k (2 * k+1)) (h2:Rel l k (2 * k+2)):Heap l:=fun j hj=>by
 by_cases e:(j-1) / 2=k
 ·rcases (Z1:j=2 * k+1\/j=2 * k+2) with e1|e1
  ·rw[e,e1];exact h1
  ·rw[e,e1];exact h2
 ·exact h.1 j hj e
theorem down_step {l:List (Th α)} {k m:Nat} (h:DownInv l k) (hk:k<l.length) (hm:m<l.length) (hmk:m=2 * k+1\/m=2 * k+2) (h0:Rel l m k) (h1:Rel l m (2 * k+1)) (h2:Rel l m (2 * k+2)):DownInv (swapL l k m) m:=by
 have hne:m≠k:=Z1
 refine⟨fun j hj hjo=>?_,fun c hc hco hm0=>?_⟩
 ·intro x y hx hy
  rw[swap_get hk hm]at hx hy
  rw[if_neg hjo]at hx
  by_cases e1:(j-1) / 2=k
  ·rw[if_pos e1]at hx
   by_cases e2:j=m
   ·subst e2
    rw[if_pos rfl]at hy
    exact h0 x y hx hy
   ·have e3:j≠k:=by omega
    rw[if_neg e2,if_neg e3]at hy
    rcases (Z1:j=2 * k+1\/j=2 * k+2) with e4|e4
    ·subst e4;exact h1 x y hx hy
    ·subst e4;exact h2 x y hx hy
  ·rw[if_neg e1]at hx
   by_cases e2:j=m
   ·omega
   ·rw[if_neg e2]at hy
    by_cases e3:j=k
    ·subst e3
     rw[if_pos rfl]at hy
     exact h.2 m (Z1) (Z1) hj x y hx hy
    ·rw[if_neg e3]at hy
     exact h.1 j hj e1 x y hx hy
 ·intro x y hx hy
  rw[swap_get hk hm]at hx hy
  have e1:(m-1) / 2=k:=Z1
  have e2:k≠m:=Z1
  rw[e1,if_neg e2,if_pos rfl]at hx
  have e3:c≠m:=Z1
  have e4:c≠k:=Z1
  rw[if_neg e3,if_neg e4]at hy
  have:=h.1 c hc (Z1)
  rw[hco]at this
  exact this x y hx hy
def downF:Nat->List (Th α)->Nat->List (Th α)
 | 0,l,_=>l
 | f+1,l,k=>if leastF l k=k then l else downF f (swapL l k (leastF l k)) (leastF l k)
theorem downF_perm:∀ (f:Nat) (l:List (Th α)) (k:Nat),(downF f l k).Perm l
 | 0,l,k=>List.Perm.refl _
 | f+1,l,k=>by
  unfold downF
  split
  ·exact List.Perm.refl _
  ·exact(downF_perm f _ _).trans swap_perm
theorem heap_least {l:List (Th α)} (h:Heap l):∀ j,Rel l 0 j:=by
 intro j
 induction j using Nat.strongRecOn with
 | ind j ih =>
  by_cases e:j=0
  ·subst e;exact Rel.refl _ _
  ·by_cases hj:j<l.length
   ·exact(ih ((j-1) / 2) (Z1)).trans (Z1) (h j (Z1))
   ·exact Rel.out (Z1)
def popF (l:List (Th α)):List (Th α):=downF l.length ((swapL l 0 (l.length-1)).take (l.length-1)) 0
theorem pop_inv {l:List (Th α)} (h:Heap l) (hl:0<l.length):DownInv ((swapL l 0 (l.length-1)).take (l.length-1)) 0:=by
 refine⟨fun j hj hjo=>?_,fun c hc hco h0=>Z1⟩
 intro x y hx hy
 by_cases hjl:j<l.length-1
 ·rw[List.getElem?_take_of_lt (Z1),swap_get hl (Z1)]at hx hy
  rw[if_neg (Z1),if_neg (Z1)]at hx hy
  exact h j hj x y hx hy
 ·rw[List.getElem?_eq_none (by rw[List.length_take,swap_len];omega)]at hy;cases hy
theorem popF_perm {l:List (Th α)} {x:Th α} (hx:l[0]?=some x):(x::popF l).Perm l:=by
 have hl:0<l.length:=Z181
 have h1:(popF l).Perm ((swapL l 0 (l.length-1)).take (l.length-1)):=downF_perm _ _ _
 refine(List.Perm.cons x h1).trans ?_
 have h2:(swapL l 0 (l.length-1))=(swapL l 0 (l.length-1)).take (l.length-1)++[x]:=by
  have hd:=List.take_append_drop (l.length-1) (swapL l 0 (l.length-1))
  have hg:(swapL l 0 (l.length-1)).drop (l.length-1)=[x]:=by
   have hlast:(swapL l 0 (l.length-1))[l.length-1]?=some x:=by
    rw[swap_get hl (Z1),if_pos rfl];exact hx
   have hlt:l.length-1<(swapL l 0 (l.length-1)).length:=by rw[swap_len];omega
   rw[List.drop_eq_getElem_cons hlt,List.drop_eq_nil_of_le (by rw[swap_len];omega)]
   rw[List.getElem?_eq_getElem hlt]at hlast
   injection hlast with hlast
   rw[hlast]
  rw[hg]at hd
  exact hd.symm
 have h3:(x::(swapL l 0 (l.length-1)).take (l.length-1)).Perm (swapL l 0 (l.length-1)):=by
  conv=>rhs;rw[h2]
  exact(List.perm_append_singleton x _).symm
 exact h3.trans swap_perm
end Go.Proofs.YtkffhgiiejbnaaaGreat.Hq
namespace Go.Proofs.YtkffhgiiejbnaaaGreat.Hq
open Go.RowKit YtkffhgiiejbnaaaGreatW.PrintWords YtkffhgiiejbnaaaGreatW.PrintLast YtkffhgiiejbnaaaGreatW.PrintMore Aid Mp Hp
theorem exec_store {P:Program} {ev:Operand->Value} {oi:Oper} {t:TypeId} {p x:Operand} {pv u:Value} {w w1:World} (ho:oi.op=.store t p x) (hp:ev p=pv) (hx:ev x=u) (h:(Instr.storeAt t pv u).run P w=.ok () w1):(execOp ev oi).run P w=.ok .skip w1:=by
 unfold execOp
 simp only[ho,hp,hx,Sem.run_bind,Sem.run_pure,Result.andThen_ok,h]
structure Wx where
 f:Int
 a:Int
 b:Int
def kTh:Kd (Th Wx):=Kd.iso (Kd.pair (Kd.int .i64) (Kd.pair (Kd.int .i64) (Kd.pair (Kd.int .i64) (Kd.pair (Kd.int .i64) (Kd.pair (Kd.int .i64) (Kd.int .i64)))))) (fun x:Th Wx=>(x.r,x.p,x.t,x.x.f,x.x.a,x.x.b))
def cells6 (x:Th Wx):List Value:=[.int .i64 x.r,.int .i64 x.p,.int .i64 x.t,.int .i64 x.x.f,.int .i64 x.x.a,.int .i64 x.x.b]
theorem kTh_open {w:World} {x:Th Wx} {cs:List Value} (h:kTh.K w x cs):cs=cells6 x:=by
 obtain⟨c1,c2,rfl,h1,h2⟩:=h
 obtain⟨c3,c4,rfl,h3,h4⟩:=h2
 obtain⟨c5,c6,rfl,h5,h6⟩:=h4
 obtain⟨c7,c8,rfl,h7,h8⟩:=h6
 obtain⟨c9,c10,rfl,h9,h10⟩:=h8
 have e1:c1=[.int .i64 x.r]:=h1
 have e3:c3=[.int .i64 x.p]:=h3
 have e5:c5=[.int .i64 x.t]:=h5
 have e7:c7=[.int .i64 x.x.f]:=h7
 have e9:c9=[.int .i64 x.x.a]:=h9
 have e10:c10=[.int .i64 x.x.b]:=h10
 subst e1;subst e3;subst e5;subst e7;subst e9;subst e10
 rfl
theorem kTh_mkM (w:World) (base:Nat) (ok:Nat->Prop) (x:Th Wx):kTh.M w base ok x (cells6 x):=⟨[.int .i64 x.r],_,rfl,rfl,⟨[.int .i64 x.p],_,rfl,rfl,⟨[.int .i64 x.t],_,rfl,rfl,⟨[.int .i64 x.x.f],_,rfl,rfl,⟨[.int .i64 x.x.a],[.int .i64 x.x.b],rfl,rfl,rfl⟩⟩⟩⟩⟩
theorem kTh_sz:kTh.sz=6:=rfl
theorem kTh_E:kTh.E=[]:=rfl
theorem less_any (a b:Th Wx) (w:World):Calls Tryz.prog 189 #[.agg #[.int .i64 a.r,.int .i64 a.p,.int .i64 a.t],.agg #[.int .i64 b.r,.int .i64 b.p,.int .i64 b.t]] w fun e w'=>e=.returned (.bool (lessT a b))/\Below w.heap.size w w':=by
 obtain⟨ar,ap,at_,ax⟩:=a
 obtain⟨br,bp,bt,bx⟩:=b
 by_cases h1:ar=br
 ·subst h1
  by_cases h2:ap=bp
  ·subst h2
   have e:lessT (⟨ar,ap,at_,ax⟩:Th Wx) ⟨ar,ap,bt,bx⟩=decide (at_<bt):=by unfold lessT;simp
   rw[e]
   have e1:(ar != ar)=false:=by simp
   have e2:(ap != ap)=false:=by simp
   clear e
   go_enter Tryz.func189,Tryz.ntmps189
   go_wp2
   go_ret
   exact⟨rfl,below_alloc (below_alloc (Below.refl _ _) _) _⟩
  ·have e:lessT (⟨ar,ap,at_,ax⟩:Th Wx) ⟨ar,bp,bt,bx⟩=decide (ap<bp):=by unfold lessT;simp[h2]
   rw[e]
   have e1:(ar != ar)=false:=by simp
   have e2:(ap != bp)=true:=by simpa using h2
   clear e h2
   go_enter Tryz.func189,Tryz.ntmps189
   go_wp2
   go_ret
   exact⟨rfl,below_alloc (below_alloc (Below.refl _ _) _) _⟩
 ·have e:lessT (⟨ar,ap,at_,ax⟩:Th Wx) ⟨br,bp,bt,bx⟩=decide (ar<br):=by unfold lessT;simp[h1]
  rw[e]
  have e1:(ar != br)=true:=by simpa using h1
  clear e h1
  go_enter Tryz.func189,Tryz.ntmps189
  go_wp2
  go_ret
  exact⟨rfl,below_alloc (below_alloc (Below.refl _ _) _) _⟩
end Go.Proofs.YtkffhgiiejbnaaaGreat.Hq
namespace Go.Proofs.YtkffhgiiejbnaaaGreat.Hq
open Go.RowKit YtkffhgiiejbnaaaGreatW.PrintWords YtkffhgiiejbnaaaGreatW.PrintLast YtkffhgiiejbnaaaGreatW.PrintMore Aid Mp Hp
theorem cell_of {w:World} {p t i:Nat} {cs:Array Value} {v:Value} (h:w.heap[p]?=some (.cells cs t (0,0))) (hv:cs[i]?=some v):w.cell? ⟨p,i,none⟩=some v:=Z75
structure HpAt (W:World) (base h:Nat) (v:Value) (n:Int) (l:List (Th Wx)):Prop where
 le:base≤h
 blk:W.heap[h]?=some (.cells #[v,.int .i64 n] 288 (0,0))
 rows:Kd.R kTh 294 W base (fun _=>True) v l
structure HK (h:Nat) (w w':World):Prop where
 size:w.heap.size≤w'.heap.size
 block:∀ k,k<w.heap.size->k≠h->(∀ cs,w.heap[k]?≠some (.cells cs 294 (0,0)))->w'.heap[k]?=w.heap[k]?
theorem HK.refl (h:Nat) (w:World):HK h w w:=⟨Nat.le_refl _,fun _ _ _ _=>rfl⟩
theorem HK.trans {h:Nat} {a b c:World} (x:HK h a b) (y:HK h b c):HK h a c :=
 ⟨Nat.le_trans x.size y.size,fun k hk hne ht=>(y.block k (Nat.lt_of_lt_of_le hk x.size) hne (fun cs e=>ht cs (by rw[←x.block k hk hne ht];exact e))).trans (x.block k hk hne ht)⟩
theorem HK.of_below {h:Nat} {a b:World} (x:Below a.heap.size a b):HK h a b:=⟨x.size,fun k hk _ _=>x.block k hk⟩
theorem HK.set {h:Nat} (w:World) (j:Nat) (u:Value):HK h w (w.setCell ⟨h,j,none⟩ u):=⟨Z12,fun k _ hne _=>Below.heap_setCell w ⟨h,j,none⟩ u k hne⟩
theorem HpAt.below {W W':World} {base h:Nat} {v:Value} {n:Int} {l:List (Th Wx)} (H:HpAt W base h v n l) (hb:Below W.heap.size W W'):HpAt W' base h v n l :=
 ⟨H.le,(hb.block _ (blk_lt H.blk)).trans H.blk,Kd.R_below H.rows hb⟩
theorem HpAt.lt {W:World} {base h:Nat} {v:Value} {n:Int} {l:List (Th Wx)} (H:HpAt W base h v n l):h<W.heap.size:=blk_lt H.blk
theorem HpAt.form {W:World} {base h:Nat} {v:Value} {n:Int} {l:List (Th Wx)} (H:HpAt W base h v n l) (hl:0<l.length):∃ g cap,v=.slice (some ⟨g,0,none⟩) l.length cap/\base≤g/\g<W.heap.size/\g≠h/\l.length≤cap/\∃ cells,W.heap[g]?=some (.cells cells 294 (0,0)):=by
 obtain⟨g,cap,e,h1,h2,cells,h3⟩:=Kd.R_form H.rows hl
 refine⟨g,cap,e,h1,h2,fun e2=>?_,?_,cells,h3⟩
 ·subst e2;rw[H.blk]at h3;injection h3 with h3;injection h3 with _ h3;exact absurd h3 (Z31)
 ·have:=H.rows;rw[e]at this;exact(Kd.R_reads' this).2.1
theorem HpAt.elem {W:World} {base h g cap:Nat} {n:Int} {l:List (Th Wx)} (H:HpAt W base h (.slice (some ⟨g,0,none⟩) l.length cap) n l) {i:Nat} {x:Th Wx} (hi:l[i]?=some x) :
  (∀ j u,(cells6 x)[j]?=some u->W.cell? ⟨g,i * 6+j,none⟩=some u)/\∀ j,W.frozen? ⟨g,i * 6+j,none⟩=false:=by
 have hlt:i<l.length:=Z117
 obtain⟨c,h1,h2,h3,h4⟩:=Kd.R_elem H.rows x (i:Int) (Z1) (Z1)
 rw[Int.toNat_natCast,List.getD_eq_getElem?_getD,hi]at h2
 have hc:=kTh_open (kTh.K_of_M h2)
 subst hc
 simp only[Int.toNat_natCast,kTh_sz]at h3 h4
 exact⟨h3,h4⟩
theorem HpAt.put {W:World} {base h g cap:Nat} {n:Int} {l:List (Th Wx)} (H:HpAt W base h (.slice (some ⟨g,0,none⟩) l.length cap) n l) {i:Nat} (hi:i<l.length) (x:Th Wx) :
  HpAt (W.setCells g (i * 6) (cells6 x)) base h (.slice (some ⟨g,0,none⟩) (l.set i x).length cap) n (l.set i x)/\Below base W (W.setCells g (i * 6) (cells6 x))/\HK h W (W.setCells g (i * 6) (cells6 x))/\(W.setCells g (i * 6) (cells6 x)).heap.size=W.heap.size:=by
 obtain⟨g',cap',e,hb,hlt,hne,_,cells,hg⟩:=H.form (Z1)
 injection e with e _ e3
 injection e with e
 injection e with e
 subst e;subst e3
 obtain⟨q1,q2⟩:=H.elem (List.getElem?_eq_getElem hi)
 obtain⟨r1,r2⟩:=Kd.R_seg (okp:=fun _=>False) (c:=cells6 l[i]) (seg:=cells6 x) (j:=0) (x':=x) H.rows (i:Int) (Z1) (Z1) rfl (fun j u hu=>by rw[Int.toNat_natCast];exact q1 j u hu) (by show 0+6≤6;decide) (kTh_mkM W base _ x) (fun _ h=>h.elim)
 rw[Int.toNat_natCast]at r1 r2
 simp only[kTh_sz,Nat.add_zero]at r1 r2
 have hs:(W.setCells g (i * 6) (cells6 x)).heap.size=W.heap.size:=(setCells_same g (cells6 x) (i * 6) W).2.2.2
 refine⟨⟨H.le,by rw[List.length_set];exact(r2.block _ H.lt (fun e=>by injection e with e;exact hne e.symm)).trans H.blk,by rw[List.length_set];exact r1⟩,⟨r2.os,r2.tape,r2.output,r2.size,fun k hk=>?_⟩,⟨r2.size,fun k hk _ ht=>r2.block k hk (fun e=>by injection e with e;subst e;exact ht _ hg)⟩,hs⟩
 by_cases hk2:k<W.heap.size
 ·exact r2.block k hk2 (fun e=>by injection e with e;omega)
 ·rw[Array.getElem?_eq_none (Z1),Array.getElem?_eq_none (Z1)]
theorem info_th:(Tryz.prog.info? 294).map (·.size)=some 6:=Z15
theorem HpAt.store {W:World} {base h g cap:Nat} {n:Int} {l:List (Th Wx)} (H:HpAt W base h (.slice (some ⟨g,0,none⟩) l.length cap) n l) {i:Nat} (hi:i<l.length) (x:Th Wx) :
  (Instr.storeAt 294 (.pointer (some ⟨g,i * 6,none⟩)) (.agg #[.int .i64 x.r,.int .i64 x.p,.int .i64 x.t,.int .i64 x.x.f,.int .i64 x.x.a,.int .i64 x.x.b])).run Tryz.prog W=.ok () (W.setCells g (i * 6) (cells6 x)):=by
 obtain⟨_,inner,hown,hr⟩:=H.rows
 rcases hown.2 with⟨hv,_⟩|⟨g',cap',cur,hv,hb,hh,hnc,hcm,hcs,_⟩
 ·cases hv
 injection hv with ha _ hc
 injection ha with ha
 injection ha with hg'
 subst hg';subst hc
 refine run_store_run _ _ (cells6 x) hh rfl info_th ?_ (fun q hq=>?_)
 ·have h2:i * 6+6≤l.length * 6:=by omega
  have h3:l.length * 6≤cap * 6:=Nat.mul_le_mul_right _ hnc
  have h4:cur.size=cap * 6:=hcs
  show i * 6+6≤_
  omega
 ·simp only[cells6,List.mem_cons,List.mem_nil_iff,or_false]at hq
  rcases hq with rfl|rfl|rfl|rfl|rfl|rfl <;> rfl
end Go.Proofs.YtkffhgiiejbnaaaGreat.Hq
namespace Go.Proofs.YtkffhgiiejbnaaaGreat.Hq
open Go.RowKit YtkffhgiiejbnaaaGreatW.PrintWords YtkffhgiiejbnaaaGreatW.PrintLast YtkffhgiiejbnaaaGreatW.PrintMore Aid Mp Hp
theorem swap_eq {l:List (Th Wx)} {i k:Nat} {x y:Th Wx} (hi:l[i]?=some x) (hk:l[k]?=some y):(l.set i y).set k x=swapL l i k:=by
 have h1:i<l.length:=Z117
 have h2:k<l.length:=by rcases Nat.lt_or_ge k l.length with h|h;exact h;rw[List.getElem?_eq_none h]at hk;cases hk
 rw[List.getElem?_eq_getElem h1]at hi
 rw[List.getElem?_eq_getElem h2]at hk
 injection hi with hi
 injection hk with hk
 unfold swapL
 rw[dif_pos ⟨h1,h2⟩,hi,hk]
theorem swap_any {w:World} {base h:Nat} {v:Value} {n:Int} {l:List (Th Wx)} (H:HpAt w base h v n l) (i k:Nat) (hi:i<l.length) (hk:k<l.length) :
  Calls Tryz.prog 185 #[.pointer (some ⟨h,0,none⟩),.int .i64 (i:Int),.int .i64 (k:Int)] w fun e w'=>e=.returned (.tuple #[])/\HpAt w' base h v n (swapL l i k)/\Below base w w'/\HK h w w':=by
 obtain⟨g,cap,rfl,hb,hlt,hne,hcap,cells,hg⟩:=H.form (Z1)
 obtain⟨x,hx⟩:∃ x,l[i]?=some x:=⟨_,List.getElem?_eq_getElem hi⟩
 obtain⟨y,hy⟩:∃ y,l[k]?=some y:=⟨_,List.getElem?_eq_getElem hk⟩
 have HSE:=As.mk (swap_eq hx hy)
 have HX:=As.mk hx
 have HY:=As.mk hy
 have HH:=As.mk H
 have hiI:(i:Int)<(l.length:Int):=Z1
 have hkI:(k:Int)<(l.length:Int):=Z1
 have hi0:(0:Int)≤(i:Int):=Z1
 have hk0:(0:Int)≤(k:Int):=Z1
 have HLEN:=As.mk (And.intro hi hk)
 clear hx hy H hg hi hk
 go_enter Tryz.func185,Tryz.ntmps185
 go_wp2
 have c0:=cell_of (i:=0) HH.out.blk rfl
 have a0:=(HH.out.elem HX.out).1 0 _ rfl
 have a1:=(HH.out.elem HX.out).1 1 _ rfl
 have a2:=(HH.out.elem HX.out).1 2 _ rfl
 have a3:=(HH.out.elem HX.out).1 3 _ rfl
 have a4:=(HH.out.elem HX.out).1 4 _ rfl
 have a5:=(HH.out.elem HX.out).1 5 _ rfl
 have b0:=(HH.out.elem HY.out).1 0 _ rfl
 have b1:=(HH.out.elem HY.out).1 1 _ rfl
 have b2:=(HH.out.elem HY.out).1 2 _ rfl
 have b3:=(HH.out.elem HY.out).1 3 _ rfl
 have b4:=(HH.out.elem HY.out).1 4 _ rfl
 have b5:=(HH.out.elem HY.out).1 5 _ rfl
 simp only[Nat.add_zero]at a0 b0
 refine start_ (n:=28) (S:=fun w'=>w'.cell? ⟨h,0,none⟩=some (.slice (some ⟨g,0,none⟩) l.length cap)/\w'.cell? ⟨g,i * 6,none⟩=some (.int .i64 x.r)/\w'.cell? ⟨g,i * 6+1,none⟩=some (.int .i64 x.p)/\w'.cell? ⟨g,i * 6+2,none⟩=some (.int .i64 x.t)/\w'.cell? ⟨g,i * 6+3,none⟩=some (.int .i64 x.x.f)/\w'.cell? ⟨g,i * 6+4,none⟩=some (.int .i64 x.x.a)/\w'.cell? ⟨g,i * 6+5,none⟩=some (.int .i64 x.x.b)/\w'.cell? ⟨g,k * 6,none⟩=some (.int .i64 y.r)/\w'.cell? ⟨g,k * 6+1,none⟩=some (.int .i64 y.p)/\w'.cell? ⟨g,k * 6+2,none⟩=some (.int .i64 y.t)/\w'.cell? ⟨g,k * 6+3,none⟩=some (.int .i64 y.x.f)/\w'.cell? ⟨g,k * 6+4,none⟩=some (.int .i64 y.x.a)/\w'.cell? ⟨g,k * 6+5,none⟩=some (.int .i64 y.x.b)) (ds:=[25,27]) #[false,false,false,false,false,false,false,false,false,false,false,false,false,false,false,false,false,false,false,false,false,false,false,false,false,false,false,false] (Z15) rfl rfl (⟨c0,a0,a1,a2,a3,a4,a5,b0,b1,b2,b3,b4,b5⟩) (fun hHeld=>?_)
 have HH3:=As.mk (HH.out.below (below_drew1 (Below.refl _ _)));have HB3:=As.mk (below_drew1 (Below.refl base w));have HK3:=As.mk (HK.of_below (h:=h) (below_drew1 (Below.refl w.heap.size w)));clear HH c0 a0 a1 a2 a3 a4 a5 b0 b1 b2 b3 b4 b5;generalize w.drew=w3 at HH3 HB3 HK3 hHeld ⊢
 refine pI 0 (some 6) (bs 28 1) ?_
 refine pI 1 (some 7) (bs 28 3) ?_
 refine pI 2 (some 8) (bs 28 7) ?_
 refine pI 4 (some 10) (bs 28 23) ?_
 refine pI 5 (some 11) (bs 28 55) ?_
 refine pI 6 (some 12) (bs 28 119) ?_
 refine pI 7 (some 13) (bs 28 247) ?_
 refine pI 9 (some 15) (bs 28 759) ?_
 refine pI 10 (some 16) (bs 28 1783) ?_
 refine pI 11 (some 17) (bs 28 3831) ?_
 refine pI 12 (some 18) (bs 28 7927) ?_
 refine pI 14 (some 20) (bs 28 24311) ?_
 refine pI 17 (some 23) (bs 28 155383) ?_
 refine pI 18 (some 24) (bs 28 417527) ?_
 refine pI 19 (some 25) (bs 28 941815) ?_
 refine pI 21 (some 27) (bs 28 3038967) ?_
 refine tI 3 (some 9) (bs 28 3038975) rfl (Z118) hHeld ?_
 refine tI 8 (some 14) (bs 28 3039231) rfl (Z118) hHeld ?_
 refine tI 13 (some 19) (bs 28 3047423) rfl (Z118) hHeld ?_
 refine pI 15 (some 21) (bs 28 3080191) ?_
 refine tI 16 (some 22) (bs 28 3145727) rfl (Z118) hHeld ?_
 refine tI 20 (some 26) (bs 28 4194303) rfl (Z118) hHeld ?_
 refine pI 22 (some 28) (bs 28 8388607) ?_
 refine tI 23 (some 29) (bs 28 16777215) rfl (Z118) hHeld ?_
 refine pI 24 (some 30) (bs 28 33554431) ?_
 refine last_ (i:=25) (N:=none) (bs 28 67108863) rfl rfl (Z15) (Z31) (fun K hK=>?_)
 clear hHeld
 have hst:=HH3.out.store HLEN.out.1 y
 obtain⟨hp1,hp2,hp3,hp4⟩:=HH3.out.put HLEN.out.1 y
 have HH4:=As.mk hp1
 have HB4:=As.mk (HB3.out.trans hp2)
 have HK4:=As.mk (HK3.out.trans hp3)
 clear hp1 hp2 hp3 hp4 HH3 HB3 HK3
 generalize w3.setCells g (i * 6) (cells6 y)=w4 at *
 refine skip_ (w1:=w4) (by rfl) rfl (exec_store rfl (by rfl) (by rfl) hst) ?_
 refine hK.out _ _ ?_
 clear hK K
 refine pI 26 (some 31) (bs 28 134217727) ?_
 refine last_ (i:=27) (N:=none) (bs 28 268435455) rfl rfl (Z15) (Z31) (fun K hK=>?_)
 clear hst
 have hst:=HH4.out.store (by rw[List.length_set];exact HLEN.out.2) x
 obtain⟨hp1,hp2,hp3,hp4⟩:=HH4.out.put (by rw[List.length_set];exact HLEN.out.2) x
 have HH5:=As.mk hp1
 have HB5:=As.mk (HB4.out.trans hp2)
 have HK5:=As.mk (HK4.out.trans hp3)
 clear hp1 hp2 hp3 hp4 HH4 HB4 HK4
 generalize w4.setCells g (k * 6) (cells6 x)=w5 at *
 refine skip_ (w1:=w5) (by rfl) rfl (exec_store rfl (by rfl) (by rfl) hst) ?_
 refine hK.out _ _ ?_
 clear hK K
 refine done_ (Z15) ?_
 go_wp2
 go_end0
 refine⟨rfl,?_,HB5.out,HK5.out⟩
 have h5:=HH5.out
 rw[HSE.out,swap_len]at h5
 exact h5
end Go.Proofs.YtkffhgiiejbnaaaGreat.Hq
namespace Go.Proofs.YtkffhgiiejbnaaaGreat.Hq
open Go.RowKit YtkffhgiiejbnaaaGreatW.PrintWords YtkffhgiiejbnaaaGreatW.PrintLast YtkffhgiiejbnaaaGreatW.PrintMore Aid Mp Hp
theorem up_next {l:List (Th Wx)} {k m:Nat} {x y:Th Wx} (hm:m=(k-1) / 2) (hk0:0<k) (hk:k<l.length) (h:UpInv l k) (hx:l[k]?=some x) (hy:l[m]?=some y) (hl:lessT x y=true):UpInv (swapL l k m) m:=by
 subst hm
 refine up_step h hk hk0 (fun a b ha hb=>?_)
 rw[hx]at ha;rw[hy]at hb
 injection ha with ha;injection hb with hb;subst ha;subst hb
 exact Le.of_less hl
theorem up_stop {l:List (Th Wx)} {k m:Nat} {x y:Th Wx} (hm:m=(k-1) / 2) (h:UpInv l k) (hx:l[k]?=some x) (hy:l[m]?=some y) (hl:lessT x y=false):Heap l:=by
 subst hm
 refine up_done h (.inr (fun a b ha hb=>?_))
 rw[hy]at ha;rw[hx]at hb
 injection ha with ha;injection hb with hb;subst ha;subst hb
 exact hl
structure Sifted (w w':World) (base h:Nat) (v:Value) (n:Int) (l:List (Th Wx)):Prop where
 mk::(out:∃ l',HpAt w' base h v n l'/\l'.Perm l/\Heap l') (below:Below base w w') (kept:HK h w w')
theorem up_any {w:World} {base h:Nat} {v:Value} {n:Int} {l:List (Th Wx)} (H:HpAt w base h v n l) (k:Nat) (hk:k<l.length) (hu:UpInv l k) :
  Calls Tryz.prog 187 #[.pointer (some ⟨h,0,none⟩),.int .i64 (k:Int)] w fun e w'=>e=.returned (.tuple #[])/\Sifted w w' base h v n l:=by
 have HL:=As.mk hk
 have H0:=As.mk H
 have U0:=As.mk hu
 clear H hu hk
 go_enter Tryz.func187,Tryz.ntmps187
 go_wp2_with fail
 go_loopg [1] k (fun f v1 w'=>∃ (i:Nat) (l':List (Th Wx)) (W:World),v1=.int .i64 (i:Int)/\As (W=w')/\As (i<l'.length/\l'.length=l.length)/\As (HpAt W base h v n l')/\As (l'.Perm l)/\As (UpInv l' i)/\As (i≤f)/\As (Below base w W)/\As (HK h w W))
 case atStart=>exact⟨k,l,w,rfl,⟨rfl⟩,⟨HL.out,rfl⟩,H0,⟨List.Perm.refl _⟩,U0,⟨Nat.le_refl _⟩,⟨Below.refl _ _⟩,⟨HK.refl _ _⟩⟩
 case round =>
  clear H0 U0
  obtain⟨i,l',W,rfl,HW,HI,HH,HP,HU,HK1,HB,HKK⟩:=hrel
  have hW:=HW.out
  subst hW
  clear HW
  by_cases h0:i=0
  ·subst h0
   have hz:((0:Nat):Int)=0:=rfl
   have hn:¬ (0:Int)<((0:Nat):Int):=Z1
   go_wp2
   go_end0
   exact⟨rfl,⟨l',HH.out,HP.out,up_done HU.out (.inl rfl)⟩,HB.out,HKK.out⟩
  ·obtain⟨m,hm⟩:∃ m,m=(i-1) / 2:=⟨_,rfl⟩
   have hmI:((i:Int)-1) / 2=(m:Int):=Z1
   have hi0:(0:Int)<(i:Int):=Z1
   have hi1:(0:Int)≤(i:Int)-1:=Z1
   have hi2:(1:Int)≤(i:Int):=Z1
   have hmi:m<i:=Z1
   have HM:=As.mk hm
   obtain⟨g,cap,rfl,hbg,hlt,hne,hcap,cells,hg⟩:=HH.out.form (Z119)
   obtain⟨x,hx⟩:∃ x,l'[i]?=some x:=⟨_,List.getElem?_eq_getElem HI.out.1⟩
   obtain⟨y,hy⟩:∃ y,l'[m]?=some y:=⟨_,List.getElem?_eq_getElem (Z119)⟩
   have HX:=As.mk hx
   have HY:=As.mk hy
   have hiI:(i:Int)<(l'.length:Int):=Z119
   have hmL:(m:Int)<(l'.length:Int):=Z1
   have hm0:(0:Int)≤(m:Int):=Z1
   obtain⟨f,rfl⟩:∃ f,gk=f+1:=⟨gk-1,Z19⟩
   have hbig:(i:Int)≤9223372036854775807:=by
    have h1:=(Kd.R_reads' HH.out.rows).2.2
    have:=h1.2.1
    omega
   clear hx hy hg hm h0
   go_wp2_with fail
   refine start_ (n:=18) (S:=fun w'=>Below W.heap.size W w') (ds:=[]) #[false,false,false,false,false,false,false,false,false,false,false,false,false,false,false,false,false,false] (Z15) rfl rfl (below_drew1 (Below.refl _ _)) (fun hHeld=>?_)
   have HW9:=As.mk hHeld;clear hHeld;generalize W.drew=w9 at HW9 ⊢;have hHeld:=HW9.out
   refine pI 0 (some 10) (bs 18 1) ?_
   refine pI 1 (some 11) (bs 18 3) ?_
   refine pI 2 (some 12) (bs 18 7) ?_
   refine pI 4 (some 14) (bs 18 23) ?_
   refine pI 8 (some 18) (bs 18 279) ?_
   refine pI 9 (some 19) (bs 18 791) ?_
   refine pI 10 (some 20) (bs 18 1815) ?_
   refine pI 12 (some 22) (bs 18 5911) ?_
   refine tI 3 (some 13) (bs 18 5919) rfl (Z120) hHeld ?_
   refine pI 5 (some 15) (bs 18 5951) ?_
   refine pI 6 (some 16) (bs 18 6015) ?_
   refine tI 7 (some 17) (bs 18 6143) rfl (Z120) hHeld ?_
   refine tI 11 (some 21) (bs 18 8191) rfl (Z120) hHeld ?_
   refine pI 13 (some 23) (bs 18 16383) ?_
   refine pI 14 (some 24) (bs 18 32767) ?_
   refine tI 15 (some 25) (bs 18 65535) rfl (Z120) hHeld ?_
   refine one_ (i:=16) (N:=some 26) (bs 18 131071) rfl rfl (Z15) (Z31) (fun K hK=>?_)
   refine goes_ Tryz.func189 (Z15) rfl #[.agg #[.int .i64 x.r,.int .i64 x.p,.int .i64 x.t],.agg #[.int .i64 y.r,.int .i64 y.p,.int .i64 y.t]] (by rfl) rfl rfl (Z101) ?_
   refine(less_any x y _).mono ?_
   rintro e w10 ⟨rfl,hb⟩
   refine⟨_,rfl,?_⟩
   have HW10:=As.mk (bt_ HW9.out hb)
   refine hK.out _ _ HW10.out (fun _=>?_)
   clear hK K hb HW9 hHeld
   refine nI ?_
   refine pI 17 (some 27) (bs 18 262143) ?_
   refine done_ (Z15) ?_
   have HH2:=As.mk (HH.out.below HW10.out)
   have HB2:=As.mk (HB.out.trans (HW10.out.mono (Nat.le_trans HH.out.le (Nat.le_of_lt HH.out.lt))))
   have HK2:=As.mk (HKK.out.trans (HK.of_below HW10.out))
   clear HH HB HKK HW10
   cases hl:lessT x y with
   | false =>
    have HS:=As.mk (up_stop HM.out HU.out HX.out HY.out hl)
    clear hl
    go_wp2
    refine bodyPost_ret (results_none rfl _ _ _) rfl ?_
    exact⟨rfl,⟨l',HH2.out,HP.out,HS.out⟩,HB2.out,HK2.out⟩
   | true =>
    have HS:=As.mk (up_next HM.out (Z1) HI.out.1 HU.out HX.out HY.out hl)
    have HSW:=As.mk (swap_any HH2.out i m HI.out.1 (Z119))
    have HLN:=As.mk (swap_len l' i m)
    have HPM:=As.mk (swap_perm (l:=l') (i:=i) (k:=m))
    clear hl HU
    generalize swapL l' i m=l2 at *
    go_wp2_with (go_at_call 185;refine HSW.out.mono ?_;rintro e w11 ⟨rfl,hh,hb,hkk⟩;have HH3:=As.mk hh;have HB3:=As.mk (HB2.out.trans hb);have HK3:=As.mk (HK2.out.trans hkk);clear hh hb hkk HSW)
    go_roundg f
    case measure=>omega
    case rel=>exact⟨m,l2,_,rfl,⟨rfl⟩,⟨by rw[HLN.out];have:=HI.out.1;omega,HLN.out.trans HI.out.2⟩,⟨Z121⟩,⟨HPM.out.trans HP.out⟩,HS,⟨Z19⟩,HB3,HK3⟩
end Go.Proofs.YtkffhgiiejbnaaaGreat.Hq
namespace Go.Proofs.YtkffhgiiejbnaaaGreat.Hq
open Go.RowKit YtkffhgiiejbnaaaGreatW.PrintWords YtkffhgiiejbnaaaGreatW.PrintLast YtkffhgiiejbnaaaGreatW.PrintMore Aid Mp Hp
def leastJ (l:List (Th Wx)) (i:Nat):Nat->Nat
 | 0=>i
 | j+1=>pickF l (2 * i+1+j) (leastJ l i j)
theorem leastJ_two (l:List (Th Wx)) (i:Nat):leastJ l i 2=leastF l i:=rfl
theorem pick_out {l:List (Th Wx)} {k m:Nat} (hk:l.length≤k):pickF l k m=m:=by unfold pickF;rw[List.getElem?_eq_none hk]
theorem pick_in {l:List (Th Wx)} {k m:Nat} {x y:Th Wx} (hx:l[k]?=some x) (hy:l[m]?=some y):pickF l k m=if lessT x y=true then k else m:=by unfold pickF;rw[hx,hy]
theorem leastJ_lt {l:List (Th Wx)} {i:Nat} (hi:i<l.length):∀ j,leastJ l i j<l.length
 | 0=>hi
 | j+1=>(pick_spec (leastJ_lt hi j)).1
theorem leastJ_le {l:List (Th Wx)} {i:Nat} (hi:l.length≤i):∀ j,leastJ l i j=i
 | 0=>rfl
 | j+1=>(pick_out (Z1)).trans (leastJ_le hi j)
theorem down_next {l:List (Th Wx)} {i m:Nat} (hm:leastF l i=m) (hne:m≠i) (hi:i<l.length) (h:DownInv l i):m<l.length/\i<m/\DownInv (swapL l i m) m:=by
 subst hm
 obtain⟨a1,a2,a3,a4,a5⟩:=least_spec hi
 have hm:leastF l i=2 * i+1\/leastF l i=2 * i+2:=by rcases a2 with a|a;exact absurd a hne;exact a
 exact⟨a1,Z1,down_step h hi a1 hm a3 a4 a5⟩
theorem down_stop {l:List (Th Wx)} {i:Nat} (hm:leastF l i=i) (h:DownInv l i):Heap l:=by
 by_cases hi:i<l.length
 ·obtain⟨a1,a2,a3,a4,a5⟩:=least_spec hi
  rw[hm]at a4 a5
  exact down_done h a4 a5
 ·intro j hj x y hx hy
  exact down_done h (Rel.out (Z1)) (Rel.out (Z1)) j hj x y hx hy
theorem info_int:(Tryz.prog.info? 3).map (·.size)=some 1:=Z15
theorem index_0 (x y:Int) (W:World):(Instr.index 295 (.agg #[.int .i64 x,.int .i64 y]) (.int .i64 0)).run Tryz.prog W=.ok (.int .i64 x) W:=by
 obtain⟨i,hi,hsz⟩:=Option.map_eq_some_iff.1 info_int
 simp[Instr.index,run_underlying Tryz.underlying295,asIntOf,part,sizeOf,typeInfo,hi,hsz,go_sem]
theorem index_1 (x y:Int) (W:World):(Instr.index 295 (.agg #[.int .i64 x,.int .i64 y]) (.int .i64 1)).run Tryz.prog W=.ok (.int .i64 y) W:=by
 obtain⟨i,hi,hsz⟩:=Option.map_eq_some_iff.1 info_int
 simp[Instr.index,run_underlying Tryz.underlying295,asIntOf,part,sizeOf,typeInfo,hi,hsz,go_sem]
theorem down_any {w:World} {base h:Nat} {v:Value} {n:Int} {l:List (Th Wx)} (H:HpAt w base h v n l) (hu:DownInv l 0) (hl:l.length≤1000000000) :
  Calls Tryz.prog 186 #[.pointer (some ⟨h,0,none⟩),.int .i64 0] w fun e w'=>e=.returned (.tuple #[])/\Sifted w w' base h v n l:=by
 have H0:=As.mk H
 have U0:=As.mk hu
 have HLL:=As.mk hl
 clear H hu hl
 go_enter Tryz.func186,Tryz.ntmps186
 go_wp2_with fail
 go_loopg [1] (l.length+1) (fun f v1 w'=>∃ (i:Nat) (l':List (Th Wx)) (W:World),v1=.int .i64 (i:Int)/\As (W=w')/\As ((i<l'.length\/i=0)/\l'.length=l.length)/\As (HpAt W base h v n l')/\As (l'.Perm l)/\As (DownInv l' i)/\As (l.length+1≤i+f)/\As (Below base w W)/\As (HK h w W))
 case atStart=>exact⟨0,l,w,rfl,⟨rfl⟩,⟨.inr rfl,rfl⟩,H0,⟨List.Perm.refl _⟩,U0,⟨Z1⟩,⟨Below.refl _ _⟩,⟨HK.refl _ _⟩⟩
 case round =>
  clear H0 U0
  obtain⟨i,l',W,rfl,HW,HI,HH,HP,HU,HK1,HB,HKK⟩:=hrel
  have hW:=HW.out
  subst hW
  clear HW
  obtain⟨f,rfl⟩:∃ f,gk=f+1:=⟨gk-1,by have:=HK1.out;have:=HI.out;omega⟩
  have hi0:(0:Int)≤(i:Int):=Z1
  have hib:(i:Int)≤1000000000:=by have:=HI.out;have:=HLL.out;omega
  have e1:2 * (i:Int)+1=((2 * i+1+0:Nat):Int):=Z1
  have e2:2 * (i:Int)+2=((2 * i+1+1:Nat):Int):=Z1
  have HK2:=As.mk (show (2 * i+1+0=2 * i+1+0)/\(2 * i+1+1=2 * i+1+1) from⟨rfl,rfl⟩)
  have hk1b:((2 * i+1+0:Nat):Int)≤3000000000:=Z1
  have hk2b:((2 * i+1+1:Nat):Int)≤3000000000:=Z1
  generalize hk1:2 * i+1+0=k1 at e1 hk1b
  generalize hk2:2 * i+1+1=k2 at e2 hk2b
  have HKS:=As.mk (And.intro hk1 hk2)
  clear hk1 hk2 HK2
  obtain⟨A,cap,rfl⟩:=Kd.R_slice HH.out.rows
  go_wp2_with fail
  clear e1 e2
  go_loopg [4,15] 2 (fun f2 v4 v15 w'=>∃ (j:Nat) (W2:World),v4=.int .i64 (leastJ l' i j:Int)/\v15=.int .i64 (j:Int)/\j≤2/\As (W2=w')/\As (2≤j+f2)/\As (Below W.heap.size W W2))
  case atStart=>exact⟨0,W,rfl,rfl,Z1,⟨rfl⟩,⟨Z1⟩,⟨Below.refl _ _⟩⟩
  case round =>
   obtain⟨j,W2,rfl,rfl,hj,HW2,HK3,HB2⟩:=hrel
   have hW2:=HW2.out
   subst hW2
   clear HW2
   have HH2:=As.mk (HH.out.below HB2.out)
   by_cases hj2:j=2
   ·subst hj2
    have hjn:¬ ((2:Nat):Int)<2:=Z1
    have hlj:leastJ l' i 2=leastF l' i:=rfl
    rw[hlj]
    clear hlj HK3
    have hlt2:leastF l' i≤1000000000:=by
     have h1:=HLL.out
     have h2:=HI.out.2
     rcases Nat.lt_or_ge i l'.length with h|h
     ·have:=leastJ_lt h 2;rw[leastJ_two]at this;omega
     ·have:=leastJ_le h 2;rw[leastJ_two]at this;omega
    have HBW:=As.mk (HB.out.trans (HB2.out.mono (Nat.le_trans HH.out.le (Nat.le_of_lt HH.out.lt))))
    have HKW:=As.mk (HKK.out.trans (HK.of_below HB2.out))
    generalize hlm:leastF l' i=m at hlt2 ⊢
    by_cases hmi:m=i
    ·subst hmi
     have HS:=As.mk (down_stop hlm HU.out)
     clear hlm
     go_wp2_with fail
     refine bodyPost_ret (results_none rfl _ _ _) rfl ?_
     exact⟨rfl,⟨l',HH2.out,HP.out,HS.out⟩,HBW.out,HKW.out⟩
    ·have hil:i<l'.length:=by
      rcases Nat.lt_or_ge i l'.length with h|h
      ·exact h
      ·have:=leastJ_le h 2;rw[leastJ_two,hlm]at this;exact absurd this hmi
     obtain⟨q1,q2,q3⟩:=down_next hlm hmi hil HU.out
     have HS:=As.mk (And.intro q1 (And.intro q2 q3))
     have HSW:=As.mk (swap_any HH2.out i m hil q1)
     have HLN:=As.mk (swap_len l' i m)
     have HPM:=As.mk (swap_perm (l:=l') (i:=i) (k:=m))
     have hne:((m:Int)==(i:Int))=false:=by simpa using (show ¬ (m:Int)=(i:Int) from Z1)
     clear hlm hmi q1 q2 q3 HU
     generalize swapL l' i m=l2 at *
     go_wp2_with (go_at_call 185;refine HSW.out.mono ?_;rintro e w11 ⟨rfl,hh,hb,hkk⟩;have HH3:=As.mk hh;have HB3:=As.mk (HBW.out.trans hb);have HK4:=As.mk (HKW.out.trans hkk);clear hh hb hkk HSW)
     go_roundg f
     case measure=>omega
     case rel=>exact⟨m,l2,_,rfl,⟨rfl⟩,⟨.inl (by rw[HLN.out];exact HS.out.1),HLN.out.trans HI.out.2⟩,⟨Z121⟩,⟨HPM.out.trans HP.out⟩,⟨HS.out.2.2⟩,⟨by have:=HK1.out;have:=HS.out.2.1;omega⟩,HB3,HK4⟩
   ·have hjI:(j:Int)<2:=by omega
    obtain⟨f2,rfl⟩:∃ f2,gk=f2+1:=⟨gk-1,Z87⟩
    have hix0:=index_0 (k1:Int) (k2:Int) W2
    have hix1:=index_1 (k1:Int) (k2:Int) W2
    obtain rfl|rfl:j=0\/j=1:=Z1
    ·have hkk:2 * i+1+0=k1:=HKS.out.1
     have HLJ:=As.mk (show leastJ l' i (0+1)=pickF l' k1 (leastJ l' i 0) by rw[←hkk];rfl)
     have hk0:(0:Int)≤(k1:Int):=Z1
     by_cases hlt:k1<l'.length
     ·have hltI:(k1:Int)<(l'.length:Int):=by omega
      have hil:i<l'.length:=Z1
      have hm:=leastJ_lt hil 0
      have HNX:=As.mk (fun x y=>pick_in (l:=l') (k:=k1) (m:=leastJ l' i 0) (x:=x) (y:=y))
      generalize leastJ l' i 0=m at hm HLJ HNX ⊢
      have hmI:(m:Int)<(l'.length:Int):=Z1
      have hm0:(0:Int)≤(m:Int):=Z1
      obtain⟨g,cap',hform,hbg,hglt,hne,hcap,cells,hg⟩:=HH2.out.form (Z1)
      injection hform with hform _ hform3
      subst hform;subst hform3
      obtain⟨x,hx⟩:∃ x,l'[k1]?=some x:=⟨_,List.getElem?_eq_getElem hlt⟩
      obtain⟨y,hy⟩:∃ y,l'[m]?=some y:=⟨_,List.getElem?_eq_getElem hm⟩
      have HX:=As.mk hx
      have HY:=As.mk hy
      have HN2:=As.mk (HLJ.out.trans (HNX.out x y hx hy))
      clear hx hy hg HNX HLJ hkk
      go_wp2_with fail
      refine start_ (n:=26) (S:=fun w'=>Below W2.heap.size W2 w') (ds:=[]) #[false,false,false,false,false,false,false,false,false,false,false,false,false,false,false,false,false,false,false,false,false,false,false,false,false,false] (Z15) rfl rfl (below_drew1 (Below.refl _ _)) (fun hHeld=>?_)
      have HW9:=As.mk hHeld;clear hHeld;generalize W2.drew=w9 at HW9 ⊢;have hHeld:=HW9.out
      refine pI 0 (some 18) (bs 26 1) ?_
      refine pI 1 (some 19) (bs 26 3) ?_
      refine pI 2 (some 20) (bs 26 7) ?_
      refine pI 3 (some 21) (bs 26 15) ?_
      refine tI 4 (some 22) (bs 26 31) rfl (Z122) hHeld ?_
      refine pI 5 (some 23) (bs 26 63) ?_
      refine pI 6 (some 24) (bs 26 127) ?_
      refine pI 7 (some 25) (bs 26 255) ?_
      refine pI 8 (some 26) (bs 26 511) ?_
      refine pI 9 (some 27) (bs 26 1023) ?_
      refine pI 10 (some 28) (bs 26 2047) ?_
      refine pI 12 (some 30) (bs 26 6143) ?_
      refine pI 16 (some 34) (bs 26 71679) ?_
      refine pI 17 (some 35) (bs 26 202751) ?_
      refine pI 18 (some 36) (bs 26 464895) ?_
      refine pI 20 (some 38) (bs 26 1513471) ?_
      refine tI 11 (some 29) (bs 26 1515519) rfl (Z122) hHeld ?_
      refine pI 13 (some 31) (bs 26 1523711) ?_
      refine pI 14 (some 32) (bs 26 1540095) ?_
      refine tI 15 (some 33) (bs 26 1572863) rfl (Z122) hHeld ?_
      refine tI 19 (some 37) (bs 26 2097151) rfl (Z122) hHeld ?_
      refine pI 21 (some 39) (bs 26 4194303) ?_
      refine pI 22 (some 40) (bs 26 8388607) ?_
      refine tI 23 (some 41) (bs 26 16777215) rfl (Z122) hHeld ?_
      refine one_ (i:=24) (N:=some 42) (bs 26 33554431) rfl rfl (Z15) (Z31) (fun K hK=>?_)
      refine goes_ Tryz.func189 (Z15) rfl #[.agg #[.int .i64 x.r,.int .i64 x.p,.int .i64 x.t],.agg #[.int .i64 y.r,.int .i64 y.p,.int .i64 y.t]] (by rfl) rfl rfl (Z101) ?_
      refine(less_any x y _).mono ?_
      rintro e w10 ⟨rfl,hb⟩
      refine⟨_,rfl,?_⟩
      have HW10:=As.mk (bt_ HW9.out hb)
      refine hK.out _ _ HW10.out (fun _=>?_)
      clear hK K hb HW9 hHeld
      refine nI ?_
      refine pI 25 (some 43) (bs 26 67108863) ?_
      refine done_ (Z15) ?_
      cases hl:lessT x y with
      | false =>
       rw[hl,if_neg (Z31)]at HN2
       clear hl
       go_wp2
       go_roundg f2
       case measure=>omega
       case rel=>exact⟨0+1,_,Z123,Z67,Z1,⟨rfl⟩,⟨Z87⟩,⟨bt_ HB2.out HW10.out⟩⟩
      | true =>
       rw[hl,if_pos rfl]at HN2
       clear hl
       go_wp2
       go_roundg f2
       case measure=>omega
       case rel=>exact⟨0+1,_,Z123,Z67,Z1,⟨rfl⟩,⟨Z87⟩,⟨bt_ HB2.out HW10.out⟩⟩
     ·have hltI:¬ (k1:Int)<(l'.length:Int):=by omega
      have HN2:=As.mk (HLJ.out.trans (pick_out (Z1)))
      clear HLJ hkk
      generalize leastJ l' i 0=m at HN2 ⊢
      go_wp2_with fail
      refine start_ (n:=26) (S:=fun w'=>Below W2.heap.size W2 w') (ds:=[]) #[false,false,false,false,false,false,false,false,false,false,false,false,false,false,false,false,false,false,false,false,false,false,false,false,false,false] (Z15) rfl rfl (below_drew1 (Below.refl _ _)) (fun hHeld=>?_)
      have HW9:=As.mk hHeld;clear hHeld;generalize W2.drew=w9 at HW9 ⊢;have hHeld:=HW9.out
      refine pI 0 (some 18) (bs 26 1) ?_
      refine pI 1 (some 19) (bs 26 3) ?_
      refine pI 2 (some 20) (bs 26 7) ?_
      refine pI 3 (some 21) (bs 26 15) ?_
      refine tI 4 (some 22) (bs 26 31) rfl (Z124) hHeld ?_
      refine pI 5 (some 23) (bs 26 63) ?_
      refine pI 6 (some 24) (bs 26 127) ?_
      refine pI 7 (some 25) (bs 26 255) ?_
      refine pO 8 (some 26) (bs 26 511) ?_
      refine pO 9 (some 27) (bs 26 1023) ?_
      refine pO 10 (some 28) (bs 26 2047) ?_
      refine pO 12 (some 30) (bs 26 6143) ?_
      refine pO 16 (some 34) (bs 26 71679) ?_
      refine pO 17 (some 35) (bs 26 202751) ?_
      refine pO 18 (some 36) (bs 26 464895) ?_
      refine pO 20 (some 38) (bs 26 1513471) ?_
      refine pO 11 (some 29) (bs 26 1515519) ?_
      refine pO 13 (some 31) (bs 26 1523711) ?_
      refine pO 14 (some 32) (bs 26 1540095) ?_
      refine pO 15 (some 33) (bs 26 1572863) ?_
      refine pO 19 (some 37) (bs 26 2097151) ?_
      refine pO 21 (some 39) (bs 26 4194303) ?_
      refine pO 22 (some 40) (bs 26 8388607) ?_
      refine pO 23 (some 41) (bs 26 16777215) ?_
      refine pO 24 (some 42) (bs 26 33554431) ?_
      refine pI 25 (some 43) (bs 26 67108863) ?_
      refine done_ (Z15) ?_
      go_wp2
      go_roundg f2
      case measure=>omega
      case rel=>exact⟨0+1,_,Z123,Z67,Z1,⟨rfl⟩,⟨Z87⟩,⟨bt_ HB2.out HW9.out⟩⟩
    ·have hkk:2 * i+1+1=k2:=HKS.out.2
     have HLJ:=As.mk (show leastJ l' i (1+1)=pickF l' k2 (leastJ l' i 1) by rw[←hkk];rfl)
     have hk0:(0:Int)≤(k2:Int):=Z1
     by_cases hlt:k2<l'.length
     ·have hltI:(k2:Int)<(l'.length:Int):=by omega
      have hil:i<l'.length:=Z1
      have hm:=leastJ_lt hil 1
      have HNX:=As.mk (fun x y=>pick_in (l:=l') (k:=k2) (m:=leastJ l' i 1) (x:=x) (y:=y))
      generalize leastJ l' i 1=m at hm HLJ HNX ⊢
      have hmI:(m:Int)<(l'.length:Int):=Z1
      have hm0:(0:Int)≤(m:Int):=Z1
      obtain⟨g,cap',hform,hbg,hglt,hne,hcap,cells,hg⟩:=HH2.out.form (Z1)
      injection hform with hform _ hform3
      subst hform;subst hform3
      obtain⟨x,hx⟩:∃ x,l'[k2]?=some x:=⟨_,List.getElem?_eq_getElem hlt⟩
      obtain⟨y,hy⟩:∃ y,l'[m]?=some y:=⟨_,List.getElem?_eq_getElem hm⟩
      have HX:=As.mk hx
      have HY:=As.mk hy
      have HN2:=As.mk (HLJ.out.trans (HNX.out x y hx hy))
      clear hx hy hg HNX HLJ hkk
      go_wp2_with fail
      refine start_ (n:=26) (S:=fun w'=>Below W2.heap.size W2 w') (ds:=[]) #[false,false,false,false,false,false,false,false,false,false,false,false,false,false,false,false,false,false,false,false,false,false,false,false,false,false] (Z15) rfl rfl (below_drew1 (Below.refl _ _)) (fun hHeld=>?_)
      have HW9:=As.mk hHeld;clear hHeld;generalize W2.drew=w9 at HW9 ⊢;have hHeld:=HW9.out
      refine pI 0 (some 18) (bs 26 1) ?_
      refine pI 1 (some 19) (bs 26 3) ?_
      refine pI 2 (some 20) (bs 26 7) ?_
      refine pI 3 (some 21) (bs 26 15) ?_
      refine tI 4 (some 22) (bs 26 31) rfl (Z122) hHeld ?_
      refine pI 5 (some 23) (bs 26 63) ?_
      refine pI 6 (some 24) (bs 26 127) ?_
      refine pI 7 (some 25) (bs 26 255) ?_
      refine pI 8 (some 26) (bs 26 511) ?_
      refine pI 9 (some 27) (bs 26 1023) ?_
      refine pI 10 (some 28) (bs 26 2047) ?_
      refine pI 12 (some 30) (bs 26 6143) ?_
      refine pI 16 (some 34) (bs 26 71679) ?_
      refine pI 17 (some 35) (bs 26 202751) ?_
      refine pI 18 (some 36) (bs 26 464895) ?_
      refine pI 20 (some 38) (bs 26 1513471) ?_
      refine tI 11 (some 29) (bs 26 1515519) rfl (Z122) hHeld ?_
      refine pI 13 (some 31) (bs 26 1523711) ?_
      refine pI 14 (some 32) (bs 26 1540095) ?_
      refine tI 15 (some 33) (bs 26 1572863) rfl (Z122) hHeld ?_
      refine tI 19 (some 37) (bs 26 2097151) rfl (Z122) hHeld ?_
      refine pI 21 (some 39) (bs 26 4194303) ?_
      refine pI 22 (some 40) (bs 26 8388607) ?_
      refine tI 23 (some 41) (bs 26 16777215) rfl (Z122) hHeld ?_
      refine one_ (i:=24) (N:=some 42) (bs 26 33554431) rfl rfl (Z15) (Z31) (fun K hK=>?_)
      refine goes_ Tryz.func189 (Z15) rfl #[.agg #[.int .i64 x.r,.int .i64 x.p,.int .i64 x.t],.agg #[.int .i64 y.r,.int .i64 y.p,.int .i64 y.t]] (by rfl) rfl rfl (Z101) ?_
      refine(less_any x y _).mono ?_
      rintro e w10 ⟨rfl,hb⟩
      refine⟨_,rfl,?_⟩
      have HW10:=As.mk (bt_ HW9.out hb)
      refine hK.out _ _ HW10.out (fun _=>?_)
      clear hK K hb HW9 hHeld
      refine nI ?_
      refine pI 25 (some 43) (bs 26 67108863) ?_
      refine done_ (Z15) ?_
      cases hl:lessT x y with
      | false =>
       rw[hl,if_neg (Z31)]at HN2
       clear hl
       go_wp2
       go_roundg f2
       case measure=>omega
       case rel=>exact⟨1+1,_,Z123,Z67,Z1,⟨rfl⟩,⟨Z87⟩,⟨bt_ HB2.out HW10.out⟩⟩
      | true =>
       rw[hl,if_pos rfl]at HN2
       clear hl
       go_wp2
       go_roundg f2
       case measure=>omega
       case rel=>exact⟨1+1,_,Z123,Z67,Z1,⟨rfl⟩,⟨Z87⟩,⟨bt_ HB2.out HW10.out⟩⟩
     ·have hltI:¬ (k2:Int)<(l'.length:Int):=by omega
      have HN2:=As.mk (HLJ.out.trans (pick_out (Z1)))
      clear HLJ hkk
      generalize leastJ l' i 1=m at HN2 ⊢
      go_wp2_with fail
      refine start_ (n:=26) (S:=fun w'=>Below W2.heap.size W2 w') (ds:=[]) #[false,false,false,false,false,false,false,false,false,false,false,false,false,false,false,false,false,false,false,false,false,false,false,false,false,false] (Z15) rfl rfl (below_drew1 (Below.refl _ _)) (fun hHeld=>?_)
      have HW9:=As.mk hHeld;clear hHeld;generalize W2.drew=w9 at HW9 ⊢;have hHeld:=HW9.out
      refine pI 0 (some 18) (bs 26 1) ?_
      refine pI 1 (some 19) (bs 26 3) ?_
      refine pI 2 (some 20) (bs 26 7) ?_
      refine pI 3 (some 21) (bs 26 15) ?_
      refine tI 4 (some 22) (bs 26 31) rfl (Z124) hHeld ?_
      refine pI 5 (some 23) (bs 26 63) ?_
      refine pI 6 (some 24) (bs 26 127) ?_
      refine pI 7 (some 25) (bs 26 255) ?_
      refine pO 8 (some 26) (bs 26 511) ?_
      refine pO 9 (some 27) (bs 26 1023) ?_
      refine pO 10 (some 28) (bs 26 2047) ?_
      refine pO 12 (some 30) (bs 26 6143) ?_
      refine pO 16 (some 34) (bs 26 71679) ?_
      refine pO 17 (some 35) (bs 26 202751) ?_
      refine pO 18 (some 36) (bs 26 464895) ?_
      refine pO 20 (some 38) (bs 26 1513471) ?_
      refine pO 11 (some 29) (bs 26 1515519) ?_
      refine pO 13 (some 31) (bs 26 1523711) ?_
      refine pO 14 (some 32) (bs 26 1540095) ?_
      refine pO 15 (some 33) (bs 26 1572863) ?_
      refine pO 19 (some 37) (bs 26 2097151) ?_
      refine pO 21 (some 39) (bs 26 4194303) ?_
      refine pO 22 (some 40) (bs 26 8388607) ?_
      refine pO 23 (some 41) (bs 26 16777215) ?_
      refine pO 24 (some 42) (bs 26 33554431) ?_
      refine pI 25 (some 43) (bs 26 67108863) ?_
      refine done_ (Z15) ?_
      go_wp2
      go_roundg f2
      case measure=>omega
      case rel=>exact⟨1+1,_,Z123,Z67,Z1,⟨rfl⟩,⟨Z87⟩,⟨bt_ HB2.out HW9.out⟩⟩
end Go.Proofs.YtkffhgiiejbnaaaGreat.Hq
namespace Go.Proofs.YtkffhgiiejbnaaaGreat.Hq
open Go.RowKit YtkffhgiiejbnaaaGreatW.PrintWords YtkffhgiiejbnaaaGreatW.PrintLast YtkffhgiiejbnaaaGreatW.PrintMore Aid Mp Hp
structure HpOf (W:World) (base h B:Nat) (l:List (Th Wx)):Prop where
 mk::(out:∃ v n l',HpAt W base h v n l'/\0≤n/\n≤(B:Int)/\l'.Perm l/\Heap l')
theorem HpOf.below {W W':World} {base h B:Nat} {l:List (Th Wx)} (H:HpOf W base h B l) (hb:Below W.heap.size W W'):HpOf W' base h B l:=by
 obtain⟨v,n,l',h1,h2⟩:=H.out
 exact⟨⟨v,n,l',h1.below hb,h2⟩⟩
theorem HpOf.lt {W:World} {base h B:Nat} {l:List (Th Wx)} (H:HpOf W base h B l):base≤h/\h<W.heap.size:=by
 obtain⟨v,n,l',h1,h2⟩:=H.out
 exact⟨h1.le,h1.lt⟩
theorem HpAt.far {W:World} {base h:Nat} {v:Value} {n:Int} {l:List (Th Wx)} (H:HpAt W base h v n l) {g t:Nat} {cells:Array Value} (hg:W.heap[g]?=some (.cells cells t (0,0))) (h1:g≠h) (h2:294≠t) (j:Nat) (u:Value):HpAt (W.setCell ⟨g,j,none⟩ u) base h v n l :=
 ⟨H.le,(Below.heap_setCell W ⟨g,j,none⟩ u h (Ne.symm h1)).trans H.blk,Kd.R_set H.rows hg (fun q hq=>by simp only[kTh_E,List.mem_singleton]at hq;rw[hq];exact h2) j u⟩
theorem HpOf.far {W:World} {base h B:Nat} {l:List (Th Wx)} (H:HpOf W base h B l) {g t:Nat} {cells:Array Value} (hg:W.heap[g]?=some (.cells cells t (0,0))) (h1:g≠h) (h2:294≠t) (j:Nat) (u:Value):HpOf (W.setCell ⟨g,j,none⟩ u) base h B l:=by
 obtain⟨v,n,l',q1,q2⟩:=H.out
 exact⟨⟨v,n,l',q1.far hg h1 h2 j u,q2⟩⟩
theorem HK.blk {h g t:Nat} {w w':World} {cs:Array Value} (x:HK h w w') (hg:w.heap[g]?=some (.cells cs t (0,0))) (h1:g≠h) (h2:t≠294):w'.heap[g]?=some (.cells cs t (0,0)) :=
 (x.block g (blk_lt hg) h1 (fun cs' e=>by rw[hg]at e;injection e with e;injection e with _ e;exact h2 e)).trans hg
theorem HK.of_grown {W w1:World} {base h:Nat} {v:Value} {n:Int} {l:List (Th Wx)} (H:HpAt W base h v n l) (hg:W.grownBy w1 v.ownBlock):HK h W w1 :=
 ⟨hg.size,fun k hk _ ht=>hg.block k hk (fun e=>by
  obtain⟨cells,hc⟩:=Kd.R_typed H.rows k e.symm
  exact ht _ hc)⟩
theorem info_thing:(Tryz.prog.info? 294).map (fun i=>(i.zero,i.size,i.bytes))=some (some (.agg #[.int .i64 0,.int .i64 0,.int .i64 0,.int .i64 0,.int .i64 0,.int .i64 0]),6,48):=Z15
theorem push_up {l l':List (Th Wx)} {x:Th Wx} (hp:l'.Perm (l++[x])):l'.Perm (x::l):=hp.trans (List.perm_append_singleton x l)
theorem push_any {w:World} {base h B:Nat} {l:List (Th Wx)} (H:HpOf w base h B l) (r p f a b:Int) (hl:l.length≤900000000) (hB:B≤900000000) :
  Calls Tryz.prog 183 #[.pointer (some ⟨h,0,none⟩),.int .i64 r,.int .i64 p,.agg #[.int .i64 f,.int .i64 a,.int .i64 b]] w fun e w'=>e=.returned (.tuple #[])/\(∃ t,HpOf w' base h (B+1) (⟨r,p,t,⟨f,a,b⟩⟩::l))/\Below base w w'/\HK h w w':=by
 obtain⟨v,n,l',hh,hn0,hnB,hp,hhp⟩:=H.out
 have hle:l'.length≤900000000:=by rw[hp.length_eq];exact hl
 have hnb:n≤900000000:=Z1
 obtain⟨A,c,rfl⟩:=Kd.R_slice hh.rows
 have HH0:=As.mk hh
 have HP:=As.mk hp
 have HHP:=As.mk hhp
 have HL:=As.mk hle
 have hbw:base≤w.heap.size:=Nat.le_trans hh.le (Nat.le_of_lt hh.lt)
 have HNE:=As.mk (show w.heap.size≠h from Nat.ne_of_gt hh.lt)
 clear H hh hp hhp hl hle
 go_enter Tryz.func183,Tryz.ntmps183
 go_wp2
 have hba:=below_alloc (Below.refl w.heap.size w) (.cells #[.int .i64 f,.int .i64 a,.int .i64 b] 275)
 have HH1:=As.mk (HH0.out.below hba)
 have HB1:=As.mk (hba.mono hbw)
 have HK1:=As.mk (HK.of_below (h:=h) hba)
 have HM1:=As.mk (Go.MapKept.heap_alloc w (.cells #[.int .i64 f,.int .i64 a,.int .i64 b] 275)).1
 clear hba HH0
 generalize w.alloc (.cells #[.int .i64 f,.int .i64 a,.int .i64 b] 275)=w1 at HH1 HB1 HK1 HM1 ⊢
 have c0:=cell_of (i:=0) HH1.out.blk rfl
 have c1:=cell_of (i:=1) HH1.out.blk rfl
 have m0:=cell_of (i:=0) HM1.out rfl
 have m1:=cell_of (i:=1) HM1.out rfl
 have m2:=cell_of (i:=2) HM1.out rfl
 refine start_ (n:=19) (S:=fun w'=>w'.cell? ⟨h,0,none⟩=some (.slice A l'.length c)/\w'.cell? ⟨h,1,none⟩=some (.int .i64 n)/\w'.cell? ⟨w.heap.size,0,none⟩=some (.int .i64 f)/\w'.cell? ⟨w.heap.size,1,none⟩=some (.int .i64 a)/\w'.cell? ⟨w.heap.size,2,none⟩=some (.int .i64 b)) (ds:=[18]) #[false,false,false,false,false,false,false,false,false,false,false,false,false,false,false,false,false,false,false] (Z15) rfl rfl (⟨c0,c1,m0,m1,m2⟩) (fun hHeld=>?_)
 have HH3:=As.mk (HH1.out.below (below_drew1 (Below.refl _ _)));have HB3:=As.mk (below_drew1 HB1.out);have HK3:=As.mk (HK1.out.trans (HK.of_below (below_drew1 (Below.refl _ _))));have HM3:=As.mk (show w1.drew.heap[w.heap.size]?=some (.cells #[.int .i64 f,.int .i64 a,.int .i64 b] 275 (0,0)) from HM1.out);clear HH1 HB1 HK1 HM1 c0 c1 m0 m1 m2;generalize w1.drew=w3 at HH3 HB3 HK3 HM3 hHeld ⊢;have HH30:=As.mk hHeld
 refine pI 0 (some 10) (bs 19 1) ?_
 refine pI 1 (some 11) (bs 19 3) ?_
 refine pI 2 (some 12) (bs 19 7) ?_
 refine pI 3 (some 13) (bs 19 15) ?_
 refine pI 5 (some 15) (bs 19 47) ?_
 refine pI 6 (some 16) (bs 19 111) ?_
 refine pI 7 (some 17) (bs 19 239) ?_
 refine pI 8 (some 18) (bs 19 495) ?_
 refine pI 9 (some 19) (bs 19 1007) ?_
 refine tI 4 (some 14) (bs 19 1023) rfl (Z125) hHeld ?_
 refine tI 10 (some 20) (bs 19 2047) rfl (Z125) hHeld ?_
 refine pI 11 (some 21) (bs 19 4095) ?_
 refine tI 12 (some 22) (bs 19 8191) rfl (Z125) hHeld ?_
 refine pI 13 (some 23) (bs 19 16383) ?_
 refine one_ (i:=14) (N:=some 24) (bs 19 32767) rfl rfl (Z15) (Z31) (fun K hK=>?_)
 refine value_ (w1:=w3.alloc (.cells #[.int .i64 r,.int .i64 p,.int .i64 n,.int .i64 f,.int .i64 a,.int .i64 b] 294)) (v:=.slice (some ⟨w3.heap.size,0,none⟩) 1 1) (by rfl) rfl ?_ ?_
 ·first|(go_simp;done)|(go_simp;rfl)
 refine hK.out _ _ (⟨pw_cell_below (below_alloc (Below.refl _ _) _) hHeld.1,pw_cell_below (below_alloc (Below.refl _ _) _) hHeld.2.1,pw_cell_below (below_alloc (Below.refl _ _) _) hHeld.2.2.1,pw_cell_below (below_alloc (Below.refl _ _) _) hHeld.2.2.2.1,pw_cell_below (below_alloc (Below.refl _ _) _) hHeld.2.2.2.2⟩) (fun hHeld=>?_)
 clear hK K
 refine nI ?_
 refine one_ (i:=15) (N:=some 25) (bs 19 65535) rfl rfl (Z15) (Z31) (fun K hK=>?_)
 refine Kd.R_append_step kTh (w0:=w) base (by rfl) (.tmp 14) (.tmp 24) 286 294 (.agg #[.int .i64 0,.int .i64 0,.int .i64 0,.int .i64 0,.int .i64 0,.int .i64 0]) 48 rfl Tryz.underlying286 info_thing rfl (Z31) (Z1) (.slice A l'.length c) l' ⟨r,p,n,⟨f,a,b⟩⟩ [.int .i64 r,.int .i64 p,.int .i64 n,.int .i64 f,.int .i64 a,.int .i64 b] (fun _=>True) (fun _=>False) rfl ?aX ?aP (fun _ hk=>hk.elim) (fun _ _=>trivial) HH3.out.rows HB3.out (Nat.le_trans hbw HB3.out.size) (Z126) ?_
 (case aX=>exact rfl)
 (case aP=>exact kTh_mkM _ _ _ ⟨r,p,n,⟨f,a,b⟩⟩)
 intro v1 w4 ho hb hg hat
 obtain⟨A1,k1,rfl⟩:=Kd.R_slice ho
 have HB4:=As.mk hb
 have HK4:=As.mk (HK3.out.trans (HK.of_grown HH3.out hg))
 have HH4:=As.mk (blk_grown HH3.out.blk hg (Kd.R_ne HH3.out.rows HH3.out.blk (Z31)))
 have HO4:=As.mk ho
 have hfz:=blk_frozen HH4.out 0
 have c04:=cell_of (i:=0) HH4.out rfl
 have hS4:=And.intro (cell_grown hg HH30.out.1 (Kd.R_ne HH3.out.rows HH3.out.blk (Z31))) (And.intro (cell_grown hg HH30.out.2.1 (Kd.R_ne HH3.out.rows HH3.out.blk (Z31))) (And.intro (cell_grown hg HH30.out.2.2.1 (Kd.R_ne HH3.out.rows HM3.out (Z31))) (And.intro (cell_grown hg HH30.out.2.2.2.1 (Kd.R_ne HH3.out.rows HM3.out (Z31))) (cell_grown hg HH30.out.2.2.2.2 (Kd.R_ne HH3.out.rows HM3.out (Z31))))))
 clear hb hg hat ho
 refine hK.out _ _ hS4 (fun hHeld=>?_)
 clear hK K hS4
 refine norm_ (a':=?_) ?_ ?_
 rotate_left
 ·(show Act.put _ (some 25) _=_;simp only[Act.put,List.setIfInBounds_toArray,List.set_cons_zero,List.set_cons_succ];rfl)
 refine pI 16 (some 26) (bs 19 131071) ?_
 refine pI 17 (some 27) (bs 19 262143) ?_
 refine last_ (i:=18) (N:=none) (bs 19 524287) rfl rfl (Z15) (Z31) (fun K hK=>?_)
 refine skip_ (w1:=w4.setCell ⟨h,0,none⟩ (.slice A1 (l'++[(⟨r,p,n,⟨f,a,b⟩⟩:Th Wx)]).length k1)) (by rfl) rfl ?_ ?_
 ·first|(go_simp;done)|(go_simp;rfl)
 refine hK.out _ _ ?_
 clear hK K
 refine done_ (Z15) ?_
 have HPM:=As.mk (push_up (HP.out.append_right [(⟨r,p,n,⟨f,a,b⟩⟩:Th Wx)]))
 have HUP:=As.mk (push_inv (x:=(⟨r,p,n,⟨f,a,b⟩⟩:Th Wx)) HHP.out)
 have HL2:=As.mk (show (l'++[(⟨r,p,n,⟨f,a,b⟩⟩:Th Wx)]).length=l'.length+1 by simp)
 generalize l'++[(⟨r,p,n,⟨f,a,b⟩⟩:Th Wx)]=l2 at *
 have hlen:(l2.length:Int)-1=(l'.length:Int):=by have:=HL2.out;omega
 have hlenb:(l2.length:Int)≤900000001:=by have:=HL2.out;have:=HL.out;omega
 have hlen1:(1:Int)≤(l2.length:Int):=by have:=HL2.out;omega
 have HH5:=As.mk (HpAt.mk HH3.out.le (blk_set HH4.out 0 (.slice A1 l2.length k1)) (Kd.R_set HO4.out HH4.out (Z31) 0 (.slice A1 l2.length k1)))
 have HB5:=As.mk (HB4.out.setCell (p:=⟨h,0,none⟩) HH3.out.le (.slice A1 l2.length k1))
 have HK5:=As.mk (HK4.out.trans (HK.set w4 0 (.slice A1 l2.length k1)))
 clear HH3 HB3 HK3 HM3 HB4 HK4 HH4 HO4 hHeld HH30 hfz c04
 generalize w4.setCell ⟨h,0,none⟩ (.slice A1 l2.length k1)=w5 at *
 have c5:=cell_of (i:=1) HH5.out.blk rfl
 have c50:=cell_of (i:=0) HH5.out.blk rfl
 have z5:=blk_frozen HH5.out.blk 1
 have HH6:=As.mk (show HpAt (w5.setCell ⟨h,1,none⟩ (.int .i64 (n+1))) base h (.slice A1 l2.length k1) (n+1) l2 from HpAt.mk HH5.out.le (blk_set HH5.out.blk 1 (.int .i64 (n+1))) (Kd.R_set HH5.out.rows HH5.out.blk (Z31) 1 (.int .i64 (n+1))))
 have HB6:=As.mk (HB5.out.setCell (p:=⟨h,1,none⟩) HH5.out.le (.int .i64 (n+1)))
 have HK6:=As.mk (HK5.out.trans (HK.set w5 1 (.int .i64 (n+1))))
 have c60:=cell_of (i:=0) HH6.out.blk rfl
 have HU:=As.mk (up_any HH6.out l'.length (by have:=HL2.out;omega) HUP.out)
 go_wp2_with (go_at_call 187;refine HU.out.mono ?_;rintro e w7 ⟨rfl,hs⟩;have HS:=As.mk hs;clear hs HU)
 go_end0
 obtain⟨⟨l3,q1,q2,q3⟩,q4,q5⟩:=HS.out
 exact⟨rfl,⟨n,⟨⟨_,_,l3,q1,Z1,Z1,q2.trans HPM.out,q3⟩⟩⟩,HB6.out.trans q4,HK6.out.trans q5⟩
end Go.Proofs.YtkffhgiiejbnaaaGreat.Hq
namespace Go.Proofs.YtkffhgiiejbnaaaGreat.Hq
open Go.RowKit YtkffhgiiejbnaaaGreatW.PrintWords YtkffhgiiejbnaaaGreatW.PrintLast YtkffhgiiejbnaaaGreatW.PrintMore Aid Mp Hp
theorem two_new (w:World) (a b:Obj):((w.alloc a).alloc b).heap[w.heap.size]?=some a/\((w.alloc a).alloc b).heap[w.heap.size+1]?=some b:=by
 have h:((w.alloc a).alloc b).heap=(w.heap.push a).push b:=rfl
 rw[h]
 exact⟨by rw[Array.getElem?_push,if_neg (by simp),Array.getElem?_push,if_pos rfl],by rw[Array.getElem?_push,if_pos (by simp)]⟩
theorem blk_set3 {w:World} {g t:Nat} {a b c u v x:Value} (h:w.heap[g]?=some (.cells #[a,b,c] t (0,0))):(((w.setCell ⟨g,0,none⟩ u).setCell ⟨g,1,none⟩ v).setCell ⟨g,2,none⟩ x).heap[g]?=some (.cells #[u,v,x] t (0,0)) :=
 blk_set (blk_set (blk_set h 0 u) 1 v) 2 x
theorem len_any {w:World} {base h:Nat} {v:Value} {n:Int} {l:List (Th Wx)} (H:HpAt w base h v n l):Calls Tryz.prog 188 #[.pointer (some ⟨h,0,none⟩)] w fun e w'=>e=.returned (.int .i64 (l.length:Int))/\w=w':=by
 obtain⟨A,c,rfl⟩:=Kd.R_slice H.rows
 have c0:=cell_of (i:=0) H.blk rfl
 clear H
 go_enter Tryz.func188,Tryz.ntmps188
 go_wp2
 go_ret
 exact⟨rfl,rfl⟩
theorem peek_no {w:World} {base h:Nat} {v:Value} {n:Int} (H:HpAt w base h v n []):Calls Tryz.prog 184 #[.pointer (some ⟨h,0,none⟩)] w fun e w'=>e=.returned (.tuple #[.agg #[.int .i64 0,.int .i64 0,.int .i64 0],.int .i64 0,.int .i64 0,.bool false])/\Below w.heap.size w w':=by
 have HH:=As.mk H
 clear H
 go_enter Tryz.func184,Tryz.ntmps184
 go_wp2_with (go_at_call 188;refine(len_any (HH.out.below (below_alloc (Below.refl _ _) _))).mono ?_;rintro e w1 ⟨rfl,rfl⟩)
 refine bodyPost_ret (v:=.tuple #[.agg #[.int .i64 0,.int .i64 0,.int .i64 0],.int .i64 0,.int .i64 0,.bool false]) ?_ rfl ⟨rfl,?_⟩
 ·simp only[results,show Tryz.f184.results=#[.cell 2 275,.tmp 3,.tmp 4,.tmp 5] from rfl]
  first|(go_simp;done)|(go_simp;rfl)
 ·exact below_alloc (below_alloc (Below.refl _ _) _) _
theorem peek_yes {w:World} {base h:Nat} {v:Value} {n:Int} {l:List (Th Wx)} {x:Th Wx} (H:HpAt w base h v n l) (hx:l[0]?=some x):Calls Tryz.prog 184 #[.pointer (some ⟨h,0,none⟩)] w fun e w'=>e=.returned (.tuple #[.agg #[.int .i64 x.x.f,.int .i64 x.x.a,.int .i64 x.x.b],.int .i64 x.r,.int .i64 x.p,.bool true])/\Below w.heap.size w w':=by
 have hlt:0<l.length:=Z181
 obtain⟨g,cap,rfl,hb,hglt,hne,hcap,cells,hg⟩:=H.form hlt
 have hltI:(0:Int)<(l.length:Int):=Z1
 have hltB:((l.length:Int)==0)=false:=by simpa using (show ¬ (l.length:Int)=0 from Z1)
 have HH:=As.mk H
 have HX:=As.mk hx
 clear H hx hg
 go_enter Tryz.func184,Tryz.ntmps184
 go_wp2_with (go_at_call 188;refine(len_any (HH.out.below (below_alloc (Below.refl _ _) _))).mono ?_;rintro e w1 ⟨rfl,rfl⟩;have hh:=HH.out.below (below_alloc (Below.refl w.heap.size w) (.cells #[.int .i64 0,.int .i64 0,.int .i64 0] 275));have c0:=cell_of (i:=0) hh.blk rfl;have a0:=(hh.elem HX.out).1 0 _ rfl;have a1:=(hh.elem HX.out).1 1 _ rfl;have a2:=(hh.elem HX.out).1 2 _ rfl;have a3:=(hh.elem HX.out).1 3 _ rfl;have a4:=(hh.elem HX.out).1 4 _ rfl;have a5:=(hh.elem HX.out).1 5 _ rfl;simp only[Nat.zero_mul,Nat.zero_add]at a0 a1 a2 a3 a4 a5;clear hh)
 clear c0 a0 a1 a2 a3 a4 a5
 have HN0:=As.mk (two_new w (.cells #[.int .i64 0,.int .i64 0,.int .i64 0] 275 (0,0)) (.cells #[.int .i64 x.r,.int .i64 x.p,.int .i64 x.t,.int .i64 x.x.f,.int .i64 x.x.a,.int .i64 x.x.b] 294 (0,0)))
 have HB:=As.mk (below_alloc (below_alloc (Below.refl w.heap.size w) (.cells #[.int .i64 0,.int .i64 0,.int .i64 0] 275)) (.cells #[.int .i64 x.r,.int .i64 x.p,.int .i64 x.t,.int .i64 x.x.f,.int .i64 x.x.a,.int .i64 x.x.b] 294))
 generalize ((w.alloc (.cells #[.int .i64 0,.int .i64 0,.int .i64 0] 275)).alloc (.cells #[.int .i64 x.r,.int .i64 x.p,.int .i64 x.t,.int .i64 x.x.f,.int .i64 x.x.a,.int .i64 x.x.b] 294))=w2 at HN0 HB ⊢
 refine start_ (n:=12) (S:=fun w'=>w'.heap[w.heap.size+1]?=some (.cells #[.int .i64 x.r,.int .i64 x.p,.int .i64 x.t,.int .i64 x.x.f,.int .i64 x.x.a,.int .i64 x.x.b] 294 (0,0))) (ds:=[]) #[false,false,false,false,false,false,false,false,false,false,false,false] (Z15) rfl rfl (HN0.out.2) (fun hHeld=>?_)
 have HR:=As.mk (show w2.drew.heap[w.heap.size]?=some (.cells #[.int .i64 0,.int .i64 0,.int .i64 0] 275 (0,0)) from HN0.out.1);have HW9:=As.mk (below_drew1 HB.out);clear HN0 HB;generalize w2.drew=w9 at HR HW9 hHeld ⊢;have HH0:=As.mk hHeld;have r0:=cell_of (i:=0) HR.out rfl;have r1:=cell_of (i:=1) HR.out rfl;have r2:=cell_of (i:=2) HR.out rfl;have z0:=blk_frozen HR.out 0;have z1:=blk_frozen HR.out 1;have z2:=blk_frozen HR.out 2
 refine pI 0 (some 18) (bs 12 1) ?_
 refine pI 2 (some 20) (bs 12 5) ?_
 refine pI 3 (some 21) (bs 12 13) ?_
 refine pI 5 (some 23) (bs 12 45) ?_
 refine pI 6 (some 24) (bs 12 109) ?_
 refine tI 1 (some 19) (bs 12 111) rfl (Z127) hHeld ?_
 refine tI 4 (some 22) (bs 12 127) rfl (Z127) hHeld ?_
 refine tI 7 (some 25) (bs 12 255) rfl (Z127) hHeld ?_
 refine one_ (i:=8) (N:=none) (bs 12 511) rfl rfl (Z15) (Z31) (fun K hK=>?_)
 refine skip_ (w1:=((w9.setCell ⟨w.heap.size,0,none⟩ (.int .i64 x.x.f)).setCell ⟨w.heap.size,1,none⟩ (.int .i64 x.x.a)).setCell ⟨w.heap.size,2,none⟩ (.int .i64 x.x.b)) (by rfl) rfl ?_ ?_
 ·first|(go_simp;done)|(go_simp;rfl)
 refine hK.out _ _ ((Below.heap_setCell _ ⟨w.heap.size,2,none⟩ _ _ (by simp)).trans ((Below.heap_setCell _ ⟨w.heap.size,1,none⟩ _ _ (by simp)).trans ((Below.heap_setCell _ ⟨w.heap.size,0,none⟩ _ _ (by simp)).trans HH0.out))) (fun hHeld=>?_)
 clear hK K hHeld
 refine pI 9 (some 3) (bs 12 1023) ?_
 refine pI 10 (some 4) (bs 12 2047) ?_
 refine pI 11 (some 5) (bs 12 4095) ?_
 refine done_ (Z15) ?_
 clear r0 r1 r2 z0 z1 z2 HH0
 have g0:=blk_set3 (u:=.int .i64 x.x.f) (v:=.int .i64 x.x.a) (x:=.int .i64 x.x.b) HR.out
 have HBF:=As.mk (((HW9.out.setCell (p:=⟨w.heap.size,0,none⟩) (Nat.le_refl _) (.int .i64 x.x.f)).setCell (p:=⟨w.heap.size,1,none⟩) (Nat.le_refl _) (.int .i64 x.x.a)).setCell (p:=⟨w.heap.size,2,none⟩) (Nat.le_refl _) (.int .i64 x.x.b))
 clear HR HW9
 generalize ((w9.setCell ⟨w.heap.size,0,none⟩ (.int .i64 x.x.f)).setCell ⟨w.heap.size,1,none⟩ (.int .i64 x.x.a)).setCell ⟨w.heap.size,2,none⟩ (.int .i64 x.x.b)=w3 at *
 have r0:=cell_of (i:=0) g0 rfl
 have r1:=cell_of (i:=1) g0 rfl
 have r2:=cell_of (i:=2) g0 rfl
 clear g0
 go_wp2_with fail
 refine bodyPost_ret (v:=.tuple #[.agg #[.int .i64 x.x.f,.int .i64 x.x.a,.int .i64 x.x.b],.int .i64 x.r,.int .i64 x.p,.bool true]) ?_ rfl ⟨rfl,HBF.out⟩
 simp only[results,show Tryz.f184.results=#[.cell 2 275,.tmp 3,.tmp 4,.tmp 5] from rfl]
 first|(go_simp;done)|(go_simp;rfl)
end Go.Proofs.YtkffhgiiejbnaaaGreat.Hq
namespace Go.Proofs.YtkffhgiiejbnaaaGreat.Hq
open Go.RowKit YtkffhgiiejbnaaaGreatW.PrintWords YtkffhgiiejbnaaaGreatW.PrintLast YtkffhgiiejbnaaaGreatW.PrintMore Aid Mp Hp
theorem perm_nil {l:List (Th Wx)} (h:l.Perm []):l=[]:=List.Perm.eq_nil h
theorem pop_no {w:World} {base h B:Nat} (H:HpOf w base h B []):Calls Tryz.prog 179 #[.pointer (some ⟨h,0,none⟩)] w fun e w'=>e=.returned (.tuple #[.agg #[.int .i64 0,.int .i64 0,.int .i64 0],.int .i64 0,.int .i64 0,.bool false])/\Below w.heap.size w w':=by
 obtain⟨v,n,l',hh,hn0,hnB,hp,hhp⟩:=H.out
 have hl:=perm_nil hp
 subst hl
 have HH:=As.mk hh
 clear H hh hp hhp
 go_enter Tryz.func179,Tryz.ntmps179
 go_wp2_with (go_at_call 184;refine(peek_no (HH.out.below (below_alloc (Below.refl _ _) _))).mono ?_;rintro e w1 ⟨rfl,hb⟩;have HB1:=As.mk (below_alloc (bt_ (below_alloc (Below.refl w.heap.size w) _) hb) (.cells #[.int .i64 0,.int .i64 0,.int .i64 0] 275));have HR1:=As.mk ((Below.block (below_alloc (Below.refl w1.heap.size w1) (.cells #[.int .i64 0,.int .i64 0,.int .i64 0] 275)) w.heap.size (by have:=hb.size;simp at this;omega)).trans ((hb.block _ (by simp)).trans (Go.MapKept.heap_alloc w (.cells #[.int .i64 0,.int .i64 0,.int .i64 0] 275)).1));clear hb;have r0:=cell_of (i:=0) HR1.out rfl;have r1:=cell_of (i:=1) HR1.out rfl;have r2:=cell_of (i:=2) HR1.out rfl;have z0:=blk_frozen HR1.out 0;have z1:=blk_frozen HR1.out 1;have z2:=blk_frozen HR1.out 2)
 have g0:=blk_set3 (u:=.int .i64 0) (v:=.int .i64 0) (x:=.int .i64 0) HR1.out
 have s0:=cell_of (i:=0) g0 rfl
 have s1:=cell_of (i:=1) g0 rfl
 have s2:=cell_of (i:=2) g0 rfl
 clear g0
 refine bodyPost_ret (v:=.tuple #[.agg #[.int .i64 0,.int .i64 0,.int .i64 0],.int .i64 0,.int .i64 0,.bool false]) ?_ rfl ⟨rfl,?_⟩
 ·simp only[results,show Tryz.f179.results=#[.cell 2 275,.tmp 3,.tmp 4,.tmp 5] from rfl]
  first|(go_simp;done)|(go_simp;rfl)
 ·exact((HB1.out.setCell (p:=⟨w.heap.size,0,none⟩) (Nat.le_refl _) _).setCell (p:=⟨w.heap.size,1,none⟩) (Nat.le_refl _) _).setCell (p:=⟨w.heap.size,2,none⟩) (Nat.le_refl _) _
structure Popped (w w':World) (e:Ending) (base h B:Nat) (l:List (Th Wx)):Prop where
 mk::(out:∃ x l2,e=.returned (.tuple #[.agg #[.int .i64 x.x.f,.int .i64 x.x.a,.int .i64 x.x.b],.int .i64 x.r,.int .i64 x.p,.bool true])/\l.Perm (x::l2)/\(∀ y∈l,Le x y)/\HpOf w' base h B l2) (below:Below base w w') (kept:HK h w w')
theorem least_of {l l':List (Th Wx)} {x:Th Wx} (h:Heap l') (hx:l'[0]?=some x) (hp:l'.Perm l):∀ y∈l,Le x y:=by
 intro y hy
 obtain⟨j,hj⟩:=List.mem_iff_getElem?.1 (hp.mem_iff.2 hy)
 exact heap_least h j x y hx hj
theorem pop_yes {w:World} {base h B:Nat} {l:List (Th Wx)} (H:HpOf w base h B l) (hl:0<l.length) (hlb:l.length≤1000000000):Calls Tryz.prog 179 #[.pointer (some ⟨h,0,none⟩)] w fun e w'=>Popped w w' e base h B l:=by
 obtain⟨v,n,l',hh,hn0,hnB,hp,hhp⟩:=H.out
 have hll:0<l'.length:=by rw[hp.length_eq];exact hl
 have hllb:l'.length≤1000000000:=by rw[hp.length_eq];exact hlb
 obtain⟨g,cap,rfl,hbg,hglt,hne,hcap,cells,hg⟩:=hh.form hll
 obtain⟨x,hx⟩:∃ x,l'[0]?=some x:=⟨_,List.getElem?_eq_getElem hll⟩
 have HH:=As.mk hh
 have HX:=As.mk hx
 have HP:=As.mk hp
 have HLE:=As.mk (least_of hhp hx hp)
 have HPF:=As.mk ((List.Perm.cons x (downF_perm l'.length ((swapL l' 0 (l'.length-1)).take (l'.length-1)) 0).symm).trans (popF_perm hx))
 have HDI:=As.mk (pop_inv hhp hll)
 have HSL:=As.mk (swap_len l' 0 (l'.length-1))
 have hbw:base≤w.heap.size:=Nat.le_trans hh.le (Nat.le_of_lt hh.lt)
 obtain⟨q,hq⟩:∃ q,l'.length=q+1:=⟨l'.length-1,Z1⟩
 have hq1:l'.length-1=q:=Z1
 rw[hq1]at HPF HDI HSL
 have HQ:=As.mk hq
 have hlast:(l'.length:Int)-1=(q:Int):=Z1
 have hl1:(1:Int)≤(l'.length:Int):=Z1
 have hlb2:(l'.length:Int)≤1000000000:=Z1
 have hqc:(q:Int)≤(cap:Int):=Z1
 have hq0:(0:Int)≤(q:Int):=Z1
 have hhlt:=hh.lt
 clear H hh hp hhp hx hg hl hlb hq hq1 hll
 go_enter Tryz.func179,Tryz.ntmps179
 go_wp2_with (first
  | (go_at_call 184;refine(peek_yes (HH.out.below (below_alloc (Below.refl _ _) _)) HX.out).mono ?_;rintro e w1 ⟨rfl,hb⟩;have hba:=below_alloc (Below.refl w.heap.size w) (.cells #[.int .i64 0,.int .i64 0,.int .i64 0] 275);have hbb:=below_alloc (Below.refl w1.heap.size w1) (.cells #[.int .i64 x.x.f,.int .i64 x.x.a,.int .i64 x.x.b] 275);have HS1:=As.mk (show w.heap.size<w1.heap.size by have:=hb.size;simp at this;omega);have HB2:=As.mk (bt_ (bt_ hba hb) hbb);have HR2:=As.mk ((hbb.block w.heap.size HS1.out).trans ((hb.block _ (by simp)).trans (Go.MapKept.heap_alloc w (.cells #[.int .i64 0,.int .i64 0,.int .i64 0] 275)).1));have HM2:=As.mk (Go.MapKept.heap_alloc w1 (.cells #[.int .i64 x.x.f,.int .i64 x.x.a,.int .i64 x.x.b] 275)).1;have HH2:=As.mk (HH.out.below HB2.out);clear hba hbb hb;have c0:=cell_of (i:=0) HH2.out.blk rfl)
  | (go_at_call 185;refine(swap_any HH2.out 0 q (by have:=HQ.out;omega) (by have:=HQ.out;omega)).mono ?_;rintro e w3 ⟨rfl,hh,hb,hk⟩;have HB3:=As.mk ((HB2.out.mono hbw).trans hb);have HK3:=As.mk ((HK.of_below (h:=h) HB2.out).trans hk);have HR3:=As.mk (hk.blk HR2.out (Nat.ne_of_gt hhlt) (Z31));have HM3:=As.mk (hk.blk HM2.out (Nat.ne_of_gt (Nat.lt_trans hhlt HS1.out)) (Z31));have HH3:=As.mk hh;clear hh hb hk HB2 HR2 HM2 HH2 c0;have c0:=cell_of (i:=0) HH3.out.blk rfl;have z0:=blk_frozen HH3.out.blk 0)
  | (go_at_call 186;have hq:=HQ.out;have htl:((swapL l' 0 q).take q).length=q:=(by rw[List.length_take,HSL.out];omega);have hrt:=Kd.R_take (m:=q) HH3.out.rows (by rw[HSL.out];omega);have hrs:=Kd.R_set hrt HH3.out.blk (Z31) 0 (.slice (some ⟨g,0,none⟩) q cap);have HH4:=As.mk (HpAt.mk HH3.out.le (blk_set HH3.out.blk 0 (.slice (some ⟨g,0,none⟩) q cap)) hrs);have HB4:=As.mk (HB3.out.setCell (p:=⟨h,0,none⟩) HH3.out.le (.slice (some ⟨g,0,none⟩) q cap));have HK4:=As.mk (HK3.out.trans (HK.set w3 0 (.slice (some ⟨g,0,none⟩) q cap)));have HR4:=As.mk ((HK.set w3 0 (.slice (some ⟨g,0,none⟩) q cap)).blk HR3.out (Nat.ne_of_gt hhlt) (Z31));have HM4:=As.mk ((HK.set w3 0 (.slice (some ⟨g,0,none⟩) q cap)).blk HM3.out (Nat.ne_of_gt (Nat.lt_trans hhlt HS1.out)) (Z31));have HTL:=As.mk htl;clear hq htl hrt hrs HB3 HK3 HR3 HM3 HH3 c0 z0;generalize w3.setCell ⟨h,0,none⟩ (.slice (some ⟨g,0,none⟩) q cap)=w4 at *;refine(down_any HH4.out HDI.out (by rw[HTL.out];omega)).mono ?_;rintro e w5 ⟨rfl,hs⟩;have HS5:=As.mk hs;have HR5:=As.mk (hs.kept.blk HR4.out (Nat.ne_of_gt hhlt) (Z31));have HM5:=As.mk (hs.kept.blk HM4.out (Nat.ne_of_gt (Nat.lt_trans hhlt HS1.out)) (Z31));clear hs;have m0:=cell_of (i:=0) HM5.out rfl;have m1:=cell_of (i:=1) HM5.out rfl;have m2:=cell_of (i:=2) HM5.out rfl;have r0:=cell_of (i:=0) HR5.out rfl;have r1:=cell_of (i:=1) HR5.out rfl;have r2:=cell_of (i:=2) HR5.out rfl;have z0:=blk_frozen HR5.out 0;have z1:=blk_frozen HR5.out 1;have z2:=blk_frozen HR5.out 2))
 clear r0 r1 r2 z0 z1 z2 m0 m1 m2
 have g0:=blk_set3 (u:=.int .i64 x.x.f) (v:=.int .i64 x.x.a) (x:=.int .i64 x.x.b) HR5.out
 have s0:=cell_of (i:=0) g0 rfl
 have s1:=cell_of (i:=1) g0 rfl
 have s2:=cell_of (i:=2) g0 rfl
 obtain⟨⟨l3,q1,q2,q3⟩,q4,q5⟩:=HS5.out
 have q6:=((q1.far HR5.out (Nat.ne_of_gt hhlt) (Z31) 0 (.int .i64 x.x.f)).far (blk_set HR5.out 0 (.int .i64 x.x.f)) (Nat.ne_of_gt hhlt) (Z31) 1 (.int .i64 x.x.a)).far (blk_set (blk_set HR5.out 0 (.int .i64 x.x.f)) 1 (.int .i64 x.x.a)) (Nat.ne_of_gt hhlt) (Z31) 2 (.int .i64 x.x.b)
 clear g0
 refine bodyPost_ret (v:=.tuple #[.agg #[.int .i64 x.x.f,.int .i64 x.x.a,.int .i64 x.x.b],.int .i64 x.r,.int .i64 x.p,.bool true]) ?_ rfl ⟨⟨x,(swapL l' 0 q).take q,rfl,HP.out.symm.trans HPF.out.symm,HLE.out,⟨_,n,l3,q6,hn0,hnB,q2,q3⟩⟩,?_,?_⟩
 ·simp only[results,show Tryz.f179.results=#[.cell 2 275,.tmp 3,.tmp 4,.tmp 5] from rfl]
  first|(go_simp;done)|(go_simp;rfl)
 ·exact(((HB4.out.trans q4).setCell (p:=⟨w.heap.size,0,none⟩) hbw _).setCell (p:=⟨w.heap.size,1,none⟩) hbw _).setCell (p:=⟨w.heap.size,2,none⟩) hbw _
 ·have hk5:=HK4.out.trans q5
  refine⟨by have:=hk5.size;simpa[World.setCell] using this,fun k hk hne2 ht=>?_⟩
  have hkw:k≠w.heap.size:=Nat.ne_of_lt hk
  exact(Below.heap_setCell _ ⟨w.heap.size,2,none⟩ _ _ hkw).trans ((Below.heap_setCell _ ⟨w.heap.size,1,none⟩ _ _ hkw).trans ((Below.heap_setCell _ ⟨w.heap.size,0,none⟩ _ _ hkw).trans (hk5.block k hk hne2 ht)))
end Go.Proofs.YtkffhgiiejbnaaaGreat.Hq
namespace Go.Proofs.YtkffhgiiejbnaaaGreat.Ch
open Go.RowKit YtkffhgiiejbnaaaGreatW.PrintWords YtkffhgiiejbnaaaGreatW.PrintLast YtkffhgiiejbnaaaGreatW.PrintMore Aid Mp Hp Hq Tk
def kNd:Kd Nd:=Kd.iso (Kd.pair (Kd.int .i64) (Kd.pair (Kd.int .i64) (Kd.int .i64))) (fun x:Nd=>(x.id,x.ahead,x.next))
def cells3 (x:Nd):List Value:=[.int .i64 x.id,.int .i64 x.ahead,.int .i64 x.next]
theorem kNd_open {w:World} {x:Nd} {cs:List Value} (h:kNd.K w x cs):cs=cells3 x:=by
 obtain⟨c1,c2,rfl,h1,h2⟩:=h
 obtain⟨c3,c4,rfl,h3,h4⟩:=h2
 have e1:c1=[.int .i64 x.id]:=h1
 have e3:c3=[.int .i64 x.ahead]:=h3
 have e4:c4=[.int .i64 x.next]:=h4
 subst e1;subst e3;subst e4
 rfl
theorem kNd_mkM (w:World) (base:Nat) (ok:Nat->Prop) (x:Nd):kNd.M w base ok x (cells3 x):=⟨[.int .i64 x.id],_,rfl,rfl,⟨[.int .i64 x.ahead],[.int .i64 x.next],rfl,rfl,rfl⟩⟩
theorem kNd_sz:kNd.sz=3:=rfl
theorem kNd_E:kNd.E=[]:=rfl
theorem info_nd:(Tryz.prog.info? 280).map (fun i=>(i.zero,i.size,i.bytes))=some (some (.agg #[.int .i64 0,.int .i64 0,.int .i64 0]),3,24):=Z15
structure LkAt (W:World) (base c:Nat) (v:Value) (pt q:Nat) (lim st:Int) (L:List Nd):Prop where
 le:base≤c
 ne:c≠q
 blk:W.heap[c]?=some (.cells #[.pointer (some ⟨pt,0,none⟩),v,.pointer (some ⟨q,0,none⟩),.int .i64 lim,.int .i64 st] 278 (0,0))
 qt:∃ cs,W.heap[q]?=some (.cells cs 288 (0,0))
 rows:Kd.R kNd 280 W base (fun _=>True) v L
theorem LkAt.lt {W:World} {base c:Nat} {v:Value} {pt q:Nat} {lim st:Int} {L:List Nd} (H:LkAt W base c v pt q lim st L):c<W.heap.size:=blk_lt H.blk
theorem LkAt.below {W W':World} {base c:Nat} {v:Value} {pt q:Nat} {lim st:Int} {L:List Nd} (H:LkAt W base c v pt q lim st L) (hb:Below W.heap.size W W'):LkAt W' base c v pt q lim st L:=by
 obtain⟨cs,hq⟩:=H.qt
 exact⟨H.le,H.ne,(hb.block _ (blk_lt H.blk)).trans H.blk,⟨cs,(hb.block _ (blk_lt hq)).trans hq⟩,Kd.R_below H.rows hb⟩
theorem LkAt.kept {W W':World} {base c:Nat} {v:Value} {pt q:Nat} {lim st:Int} {L:List Nd} (H:LkAt W base c v pt q lim st L) (hk:HK q W W') (hq:∃ cs,W'.heap[q]?=some (.cells cs 288 (0,0))):LkAt W' base c v pt q lim st L:=by
 refine⟨H.le,H.ne,hk.blk H.blk H.ne (Z31),hq,?_⟩
 obtain⟨cs,hq0⟩:=H.qt
 refine Kd.R_mono (Kd.R_move (Kd.R_bound H.rows) (fun k hk2=>?_)) (fun _ _=>trivial)
 obtain⟨_,_,hlt,t,ht,cells,hc⟩:=hk2
 simp only[kNd_E,List.mem_singleton]at ht
 subst ht
 refine(hk.blk hc (fun e=>?_) (Z31)).trans hc.symm
 subst e
 rw[hq0]at hc
 injection hc with hc
 injection hc with _ hc
 exact absurd hc (Z31)
theorem LkAt.form {W:World} {base c:Nat} {v:Value} {pt q:Nat} {lim st:Int} {L:List Nd} (H:LkAt W base c v pt q lim st L) (hl:0<L.length):∃ g cap,v=.slice (some ⟨g,0,none⟩) L.length cap/\base≤g/\g<W.heap.size/\g≠c/\g≠q/\L.length≤cap/\∃ cells,W.heap[g]?=some (.cells cells 280 (0,0)):=by
 obtain⟨g,cap,e,h1,h2,cells,h3⟩:=Kd.R_form H.rows hl
 refine⟨g,cap,e,h1,h2,fun e2=>?_,fun e2=>?_,?_,cells,h3⟩
 ·subst e2;rw[H.blk]at h3;injection h3 with h3;injection h3 with _ h3;exact absurd h3 (Z31)
 ·subst e2;obtain⟨cs,hq⟩:=H.qt;rw[hq]at h3;injection h3 with h3;injection h3 with _ h3;exact absurd h3 (Z31)
 ·have:=H.rows;rw[e]at this;exact(Kd.R_reads' this).2.1
theorem LkAt.elem {W:World} {base c g cap n:Nat} {pt q:Nat} {lim st:Int} {L:List Nd} (H:LkAt W base c (.slice (some ⟨g,0,none⟩) n cap) pt q lim st L) {i:Nat} {x:Nd} (hi:L[i]?=some x) :
  (∀ j u,(cells3 x)[j]?=some u->W.cell? ⟨g,i * 3+j,none⟩=some u)/\∀ j,W.frozen? ⟨g,i * 3+j,none⟩=false:=by
 have hlt:i<L.length:=Z128
 have hn:=(Kd.R_reads' H.rows).1
 obtain⟨cc,h1,h2,h3,h4⟩:=Kd.R_elem H.rows x (i:Int) (Z1) (Z1)
 rw[Int.toNat_natCast,List.getD_eq_getElem?_getD,hi]at h2
 have hc:=kNd_open (kNd.K_of_M h2)
 subst hc
 simp only[Int.toNat_natCast,kNd_sz]at h3 h4
 exact⟨h3,h4⟩
theorem LkAt.c {W:World} {base c:Nat} {v:Value} {pt q:Nat} {lim st:Int} {L:List Nd} (H:LkAt W base c v pt q lim st L):W.cell? ⟨c,0,none⟩=some (.pointer (some ⟨pt,0,none⟩))/\W.cell? ⟨c,1,none⟩=some v/\W.cell? ⟨c,2,none⟩=some (.pointer (some ⟨q,0,none⟩))/\W.cell? ⟨c,3,none⟩=some (.int .i64 lim)/\W.cell? ⟨c,4,none⟩=some (.int .i64 st) :=
 ⟨cell_of H.blk rfl,cell_of H.blk rfl,cell_of H.blk rfl,cell_of H.blk rfl,cell_of H.blk rfl⟩
theorem LkAt.put {W:World} {base c g cap n:Nat} {pt q:Nat} {lim st:Int} {L:List Nd} (H:LkAt W base c (.slice (some ⟨g,0,none⟩) n cap) pt q lim st L) {i:Nat} {x:Nd} (hi:L[i]?=some x) (j:Nat) (u:Value) (x':Nd) (hj:j+1≤3) (hx:(cells3 x).take j++[u]++(cells3 x).drop (j+1)=cells3 x') :
  LkAt (W.setCell ⟨g,i * 3+j,none⟩ u) base c (.slice (some ⟨g,0,none⟩) n cap) pt q lim st (L.set i x')/\Below base W (W.setCell ⟨g,i * 3+j,none⟩ u)/\(∃ cells,W.heap[g]?=some (.cells cells 280 (0,0)))/\g≠q:=by
 have hlt:i<L.length:=Z128
 obtain⟨g',cap',e,hb,hgl,hne,hnq,_,cells,hg⟩:=H.form (Z1)
 injection e with e e2 e3
 injection e with e
 injection e with e
 subst e;subst e3;subst e2
 obtain⟨q1,q2⟩:=H.elem hi
 obtain⟨r1,r2⟩:=Kd.R_seg (okp:=fun _=>False) (c:=cells3 x) (seg:=[u]) (j:=j) (x':=x') H.rows (i:Int) (Z1) (Z1) rfl (fun j u hu=>by rw[Int.toNat_natCast];exact q1 j u hu) hj (by show kNd.M W base _ x' ((cells3 x).take j++[u]++(cells3 x).drop (j+1));rw[hx];exact kNd_mkM W base _ x') (fun _ h=>h.elim)
 rw[Int.toNat_natCast]at r1 r2
 have hw:W.setCells g (i * kNd.sz+j) [u]=W.setCell ⟨g,i * 3+j,none⟩ u:=rfl
 rw[hw]at r1 r2
 obtain⟨cs,hq⟩:=H.qt
 refine⟨⟨H.le,H.ne,(Below.heap_setCell W ⟨g,i * 3+j,none⟩ u c (Ne.symm hne)).trans H.blk,⟨cs,(Below.heap_setCell W ⟨g,i * 3+j,none⟩ u q (Ne.symm hnq)).trans hq⟩,r1⟩,(Below.refl base W).setCell (p:=⟨g,i * 3+j,none⟩) hb u,⟨cells,hg⟩,hnq⟩
end Go.Proofs.YtkffhgiiejbnaaaGreat.Ch
