import Derived.Test.YtkffhgiiejbnaaaGreatQAid
import Derived.Test.YtkffhgiiejbnaaaGreatQ01
import Derived.Test.YtkffhgiiejbnaaaGreatQMap
set_option maxHeartbeats 400000
set_option linter.unusedVariables false
set_option linter.unusedSimpArgs false
namespace Go.Proofs.YtkffhgiiejbnaaaGreat.Hp
open Go.RowKit YtkffhgiiejbnaaaGreatW.PrintWords YtkffhgiiejbnaaaGreatW.PrintLast YtkffhgiiejbnaaaGreatW.PrintMore Rf Aid Mp
theorem frozen_of {w:World} {p t:Nat} {cs:Array Value} (h:w.heap[p]?=some (.cells cs t (0,0))) (o:Nat):w.frozen? ⟨p,o,none⟩=false:=by
 simp[World.frozen?,h]
theorem set_ne (w:World) (p i j:Nat) (u:Value) (h:i≠j):(w.setCell ⟨p,j,none⟩ u).cell? ⟨p,i,none⟩=w.cell? ⟨p,i,none⟩:=by
 simp only[World.cell?,World.setCell,Array.getElem?_modify,if_true]
 cases w.heap[p]? with
 | none=>rfl
 | some o=>cases o <;> simp[Array.getElem?_setIfInBounds,Ne.symm h]
theorem set_eq {w:World} {p j:Nat} {u v:Value} (h:w.cell? ⟨p,j,none⟩=some v):(w.setCell ⟨p,j,none⟩ u).cell? ⟨p,j,none⟩=some u:=World.cell?_setCell_same' w _ _ (by rw[h];rfl)
theorem push3 {α:Type} (h:Array α) (a b c:α):(((h.push a).push b).push c)[h.size]?=some a/\(((h.push a).push b).push c)[h.size+1]?=some b/\(((h.push a).push b).push c)[h.size+2]?=some c:=by
 refine⟨?_,?_,?_⟩
 ·rw[Array.getElem?_push,if_neg (Z6),Array.getElem?_push,if_neg (by simp),Array.getElem?_push,if_pos rfl]
 ·rw[Array.getElem?_push,if_neg (by simp),Array.getElem?_push,if_pos (by simp)]
 ·rw[Array.getElem?_push,if_pos (by simp)]
theorem w64 {i:Int} (h0:-9223372036854775808≤i) (h:i≤9223372036854775807):wrap64 i=i:=Z62
theorem rdI {l:List Int} {i:Nat} (h:i<l.length):rd l (i:Int)=l[i]:=by
 unfold rd;rw[Int.toNat_natCast,List.getD_eq_getElem?_getD,List.getElem?_eq_getElem h];rfl
theorem ints_run (a b:List Int) (hab:a.length=b.length) (hl:a.length≤9223372036854775807):∀ (d k i:Nat),i≤a.length->a.length-i=d->d<k->ligatureref02_Ints.l0 k a b i=some (decide (a.drop i=b.drop i))
 | 0,k,i,h0,h1,h2=>by
  obtain⟨k,rfl⟩:∃ m,k=m+1:=⟨k-1,Z1⟩
  simp only[ligatureref02_Ints.l0]
  rw[if_neg (Z1),List.drop_eq_nil_of_le (Z1),List.drop_eq_nil_of_le (Z1)];simp
 | d+1,k,i,h0,h1,h2=>by
  obtain⟨k,rfl⟩:∃ m,k=m+1:=⟨k-1,Z1⟩
  have hlt:i<a.length:=Z1
  have hlt':i<b.length:=Z1
  simp only[ligatureref02_Ints.l0]
  rw[if_pos (Z1),if_pos (Z1),if_pos (Z1),rdI hlt,rdI hlt',List.drop_eq_getElem_cons hlt,List.drop_eq_getElem_cons hlt']
  by_cases hx:a[i]=b[i]
  ·rw[if_pos hx,w64 (Z1) (Z1),show ((i:Int)+1)=((i+1:Nat):Int) from Z1,ints_run a b hab hl d k (i+1) (Z1) (Z1) (Z1)]
   congr 1;rw[decide_eq_decide,List.cons.injEq];exact⟨fun h=>⟨hx,h⟩,fun h=>h.2⟩
  ·rw[if_neg hx];congr 1;symm;rw[decide_eq_false_iff_not,List.cons.injEq];exact fun h=>hx h.1
theorem ints_some (a b:List Int) (hl:a.length≤9223372036854775807):ligatureref02_Ints.f (a.length+1) a b=some (decide (a=b)):=by
 unfold ligatureref02_Ints.f
 by_cases h:a.length=b.length
 ·rw[if_pos (Z1)]
  exact(ints_run a b h hl a.length (a.length+1) 0 (Z1) (Z1) (Z1)).trans (by rw[List.drop_zero,List.drop_zero])
 ·rw[if_neg (Z1)];congr 1;symm;rw[decide_eq_false_iff_not];intro e;exact h (by rw[e])
theorem alloc_cell (W:World) (cs:List Value) (e j:Nat) (u:Value) (h:cs[j]?=some u):(W.alloc (.cells cs.toArray e)).cell? ⟨W.heap.size,j,none⟩=some u:=by
 have:(W.alloc (.cells cs.toArray e)).heap[W.heap.size]?=some (.cells cs.toArray e):=by
  show (W.heap.push _)[W.heap.size]?=_
  rw[Array.getElem?_push,if_pos rfl]
 simp only[World.cell?,this]
 simpa using h
theorem C_ints (W:World) (e:Nat) (xs:List Int) (h:xs.length≤9223372036854775807):Kd.C (Kd.int .i64) (W.alloc (.cells (xs.map (Value.int .i64)).toArray e)) (some ⟨W.heap.size,0,none⟩) xs.length xs:=by
 refine⟨rfl,h,fun _=>⟨_,rfl,fun j p hj=>⟨[.int .i64 p],rfl,rfl,fun i u hu=>?_⟩⟩⟩
 have hi:i=0:=by
  cases i with
  | zero=>rfl
  | succ i=>simp at hu
 subst hi
 simp only[List.getElem?_cons_zero,Option.some.injEq]at hu
 subst hu
 have e1:(⟨W.heap.size,0,none⟩:Addr).add (j * 1+0)=⟨W.heap.size,j,none⟩:=Z63
 show (W.alloc _).cell? ((⟨W.heap.size,0,none⟩:Addr).add (j * 1+0))=_
 rw[e1]
 exact alloc_cell W _ e j _ (by rw[List.getElem?_map,hj];rfl)
theorem ints_any (xs ys:List Int) (A B:Option Addr) (c d:Nat) (w:World) (hr0:Kd.C (Kd.int .i64) w A xs.length xs) (hc0:xs.length≤c) (hr1:Kd.C (Kd.int .i64) w B ys.length ys) (hc1:ys.length≤d) (hl:xs.length≤9223372036854775807) :
  Calls Tryz.prog 20 #[.slice A xs.length c,.slice B ys.length d] w fun e w'=>e=.returned (.bool (decide (xs=ys)))/\Drawn w w' :=
 (ligatureref02_Ints.calls (xs.length+1) A c xs B d ys _ w hr0 hc0 hr1 hc1 (ints_some xs ys hl)).mono fun e w' ⟨h1,h2⟩=>⟨h1,⟨h2.out⟩⟩
theorem R_but {α:Type} {d:Kd α} {e:Nat} {w w':World} {base b:Nat} {ok:Nat->Prop} {v:Value} {xs:List α} (h:d.R e w base ok v xs) (hb:But b w w') {es:Array MapEntry} {cl:Nat} (hm:w.heap[b]?=some (.map es cl)):d.R e w' base ok v xs :=
 Kd.R_mono (Kd.R_move (Kd.R_bound h) (fun k hk=>hb.block k (by
  obtain⟨_,_,_,q,hq,cells,hc⟩:=hk
  rintro rfl
  rw[hm]at hc
  cases hc))) (fun k hk=>hk.1)
end Go.Proofs.YtkffhgiiejbnaaaGreat.Hp
