import Derived.Test.YthcpdiknejblnaaQeTaF
set_option maxHeartbeats 400000
set_option linter.unusedVariables false
set_option linter.unusedSimpArgs false
namespace Go.Proofs.Ythcpdiknejblnaa.Ta
open Go Go.MapKept Go.RowKit Go.ChangeMaps Go.Sort Go.Lib YthcpdiknejblnaaW.PrintWords YthcpdiknejblnaaW.PrintLast YthcpdiknejblnaaW.PrintMore Aid
set_option linter.unusedSectionVars false
section
variable {α:Type} [Inhabited α] {d:Kd α} {enc:α->List Value} {e:Nat} {w w':World} {base g n c:Nat} {ok:Nat->Prop} {xs ys:List α}
theorem div_lt {t n k:Nat} (h:t<n * k):t / k<n:=by
 rcases Nat.eq_zero_or_pos k with h0|h0
 ·subst h0;simp at h
 ·exact(Nat.div_lt_iff_lt_mul h0).2 h
theorem split_at (t k:Nat):t=t / k * k+t % k:=by
 have:=Nat.div_add_mod t k
 rw[Nat.mul_comm]at this
 exact this.symm
theorem inner_at (hM:∀ {w base ok x cs},d.M w base ok x cs->cs=enc x) {inner:List Value} {okp:Nat->Prop} (hr:Reps (d.M w base okp) d.sz xs inner) {t:Nat} (ht:t<xs.length * d.sz):inner[t]?=some ((enc xs.toArray[t / d.sz]!)[t % d.sz]!):=by
 have hk:0<d.sz:=by
  rcases Nat.eq_zero_or_pos d.sz with h|h
  ·rw[h]at ht;simp at ht
  ·exact h
 have hj:=div_lt ht
 have hx:xs[t / d.sz]?=some (xs[t / d.sz]):=List.getElem?_eq_getElem hj
 have h1:=hM (hr.2 _ _ hx)
 have hl:(enc xs[t / d.sz]).length=d.sz:=by
  rw[←h1,List.length_take,List.length_drop,hr.1]
  have:t / d.sz * d.sz+d.sz≤xs.length * d.sz:=by
   have:=Nat.mul_le_mul_right d.sz (show t / d.sz+1≤xs.length from hj)
   rw[Nat.add_mul,Nat.one_mul]at this
   exact this
  omega
 have hm:t % d.sz<d.sz:=Nat.mod_lt _ hk
 have h2:(enc xs[t / d.sz])[t % d.sz]?=inner[t]?:=by
  rw[←h1,List.getElem?_take_of_lt hm,List.getElem?_drop]
  congr 1
  exact(split_at t d.sz).symm
 rw[←h2,show xs.toArray[t / d.sz]! = xs[t / d.sz] by simp[hj]]
 rw[List.getElem?_eq_getElem (Z0),List.getElem!_eq_getElem?_getD,List.getElem?_eq_getElem (Z0)]
 rfl
theorem R_holdsK (hM:∀ {w base ok x cs},d.M w base ok x cs->cs=enc x) (h:d.R e w base ok (.slice (some ⟨g,0,none⟩) n c) xs):HoldsK enc d.sz w g 0 xs.toArray:=by
 obtain⟨_,inner,⟨h1,h2⟩,hr⟩:=h
 rcases h2 with⟨h2,_⟩|⟨g',cap,cur,h2,hb,hh,hn,hc,hs,ht⟩
 ·cases h2
 injection h2 with h2 h3 h4
 injection h2 with h2
 injection h2 with h2 _ _
 subst h2
 intro t hlt
 rw[size_flatK,List.size_toArray]at hlt
 rw[get_flatK _ _ _ _ (by rw[List.size_toArray];exact hlt)]
 have h5:=inner_at hM hr hlt
 rw[←ht,List.getElem?_take_of_lt hlt,Array.getElem?_toList]at h5
 refine⟨?_,by simp[World.frozen?,hh]⟩
 simp only[World.cell?,hh,Nat.zero_add]
 exact h5
theorem R_sorted (hM':∀ (w:World) (base:Nat) (ok:Nat->Prop) (x:α),d.M w base ok x (enc x)) (hk:∀ x,(enc x).length=d.sz) (h:d.R e w base ok (.slice (some ⟨g,0,none⟩) n c) xs) (hl:ys.length=xs.length) {m:Nat} {os:Array Obj} :
  d.R e (sortWorldK enc d.sz w g 0 m ys.toArray os) base ok (.slice (some ⟨g,0,none⟩) n c) ys/\Out g (g+1) w (sortWorldK enc d.sz w g 0 m ys.toArray os):=by
 obtain⟨h0,inner,⟨h1,h2⟩,hr⟩:=h
 rcases h2 with⟨h2,_⟩|⟨g',cap,cur,h2,hb,hh,hn,hc,hs,ht⟩
 ·cases h2
 injection h2 with h2 h3 h4
 injection h2 with h2
 injection h2 with h2 _ _
 subst h2
 subst h3
 subst h4
 have hglt:g<w.heap.size:=(Array.getElem?_eq_some_iff.1 hh).1
 obtain⟨cur',hcur⟩:∃ cur',cur'=putCells id 0 (flatK enc d.sz ys.toArray) cur:=⟨_,rfl⟩
 have hsz:cur'.size=cur.size:=by rw[hcur];simp[putCells]
 have hblk:(sortWorldK enc d.sz w g 0 m ys.toArray os).heap[g]?=some (.cells cur' e (0,0)):=by
  have h5:(putRow id (Sort.ahead w m) g 0 (flatK enc d.sz ys.toArray)).heap[g]?=some (.cells cur' e (0,0)):=by
   have hh':(Sort.ahead w m).heap[g]?=some (.cells cur e (0,0)):=hh
   simp only[putRow,mapBlock,Array.getElem?_modify,if_true,hh',Option.map_some,onCells,hcur]
  unfold sortWorldK putRowK grow
  show (_++os:Array Obj)[g]?=_
  rw[Array.getElem?_append_left (Array.getElem?_eq_some_iff.1 h5).1]
  exact h5
 have hcells:∀ t,t<ys.length * d.sz->cur'[t]?=some ((enc ys.toArray[t / d.sz]!)[t % d.sz]!):=fun t hlt=>by
  have htc:t<cur.size:=by
   have h6:xs.length * d.sz≤cur.size:=by
    have:=congrArg List.length ht
    rw[List.length_take,h1]at this
    simp only[Array.length_toList]at this
    omega
   rw[hl]at hlt
   omega
  rw[hcur]
  simp only[putCells,Array.getElem?_mapIdx]
  rw[Array.getElem?_eq_getElem htc,Option.map_some,if_pos ⟨Nat.zero_le _,by rw[size_flatK,List.size_toArray];omega⟩,Nat.sub_zero,get_flatK _ _ _ _ (by rw[List.size_toArray];exact hlt)]
  rfl
 have hcl:ys.length * d.sz≤cur'.size:=by
  have:=congrArg List.length ht
  rw[List.length_take,h1]at this
  simp only[Array.length_toList]at this
  rw[hl,hsz]
  omega
 refine⟨⟨h0,cur'.toList.take (ys.length * d.sz),⟨Z19,.inr ⟨g,c,cur',by rw[hl],hb,hblk,by rw[hl];exact hn,hc,by rw[hsz];exact hs,rfl⟩⟩,Z19,fun j p hj=>?_⟩,?_⟩
 ·obtain⟨hjl,hjp⟩:=List.getElem?_eq_some_iff.1 hj
  have e1:((cur'.toList.take (ys.length * d.sz)).drop (j * d.sz)).take d.sz=enc p:=by
   have hjb:j * d.sz+d.sz≤ys.length * d.sz:=by
    have:=Nat.mul_le_mul_right d.sz (show j+1≤ys.length from hjl)
    rw[Nat.add_mul,Nat.one_mul]at this
    exact this
   apply List.ext_getElem?
   intro t
   rcases Nat.lt_or_ge t d.sz with htl|htl
   ·rw[List.getElem?_take_of_lt htl,List.getElem?_drop,List.getElem?_take_of_lt (Z0),Array.getElem?_toList,hcells _ (Z0)]
    have hd:(j * d.sz+t) / d.sz=j:=by rw[Nat.mul_comm,Nat.mul_add_div (Z0),Nat.div_eq_of_lt htl,Nat.add_zero]
    have hmd:(j * d.sz+t) % d.sz=t:=by rw[Nat.mul_comm,Nat.mul_add_mod,Nat.mod_eq_of_lt htl]
    rw[hd,hmd,show ys.toArray[j]! = p by simp[hjl,hjp]]
    have:=hk p
    rw[List.getElem!_eq_getElem?_getD,List.getElem?_eq_getElem (Z0)]
    rfl
   ·rw[List.getElem?_eq_none (by rw[List.length_take];omega),List.getElem?_eq_none (by rw[hk];omega)]
  rw[e1]
  exact hM' _ _ _ _
 ·refine⟨rfl,rfl,rfl,?_,fun k hk' ho=>?_⟩
  ·unfold sortWorldK grow putRowK putRow mapBlock
   simp[Sort.ahead]
  ·have hkg:k≠g:=by omega
   unfold sortWorldK grow putRowK
   show (_++os:Array Obj)[k]?=_
   have h6:(putRow id (Sort.ahead w m) g 0 (flatK enc d.sz ys.toArray)).heap[k]?=w.heap[k]?:=by
    simp only[putRow,mapBlock,Array.getElem?_modify]
    rw[if_neg (Ne.symm hkg)]
    rfl
   rw[Array.getElem?_append_left (by simp[putRow,mapBlock,Sort.ahead];exact hk')]
   exact h6
end
end Go.Proofs.Ythcpdiknejblnaa.Ta
