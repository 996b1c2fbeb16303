import Derived.BigQuiet
import Derived.Test.YthcpdiknejblnaaQeTaG
import Derived.Test.YthcpdiknejblnaaQeShelf
set_option maxRecDepth 100000
set_option maxHeartbeats 1000000
set_option linter.unusedVariables false
set_option linter.unusedSimpArgs false
namespace Go.Proofs.Ythcpdiknejblnaa.Ta
open Go Go.MapKept Go.RowKit Go.ChangeMaps Go.Sort Go.Lib Mp YthcpdiknejblnaaW.PrintWords YthcpdiknejblnaaW.PrintLast YthcpdiknejblnaaW.PrintMore Rf Aid Hp
def orI (xs:List Int):Int:=(xs.find? (fun x=>decide (x≠0))).getD 0
theorem or_any {A:Option Addr} {c:Nat} {xs:List Int} {w:World} (hr:Kd.C (Kd.int .i64) w A xs.length xs) (hl:xs.length≤1000) :
  Calls Try.prog 25 #[.slice A xs.length c] w fun e w'=>e=.returned (.int .i64 (orI xs))/\w=w':=by
 have HR:=As.mk hr
 clear hr
 go_enter Try.func25,Try.ntmps25
 go_wp2
 go_loopg [8] xs.length (fun k v8 W=>∃ i:Nat,v8=.int .i64 (i:Int)/\i≤xs.length/\xs.length-i≤k/\As (∀ j x,j<i->xs[j]?=some x->x=0)/\As (w=W))
 case atStart=>exact⟨0,rfl,Nat.zero_le _,Z0,⟨fun j x h=>Z0⟩,⟨rfl⟩⟩
 case round =>
  obtain⟨i,rfl,hi,hk,HZ,HW⟩:=hrel
  obtain rfl:=HW.out
  clear HW
  by_cases hlt:i<xs.length
  ·have hltI:(i:Int)<(xs.length:Int):=by omega
   obtain⟨k1,rfl⟩:∃ k1,gk=k1+1:=⟨gk-1,Z0⟩
   obtain⟨x,hx⟩:∃ x,xs[i]?=some x:=⟨_,List.getElem?_eq_getElem hlt⟩
   obtain⟨ad,rfl,xr⟩:=rd_at HR.out hx
   have hwi:wrap64 ((i:Int)+1)=(i:Int)+1:=w64 (Z0) (Z0)
   by_cases h0:x=0
   ·subst h0
    have HZ2:=As.mk (show ∀ j x,j<i+1->xs[j]?=some x->x=0 from fun j y hj hy=>by
     by_cases e:j=i
     ·subst e;rw[hx]at hy;injection hy with hy;exact hy.symm
     ·exact HZ.out j y (Z0) hy)
    clear hx
    go_wp2
    go_roundg k1
    case measure=>omega
    case rel=>exact⟨i+1,by go_num,hlt,Z0,HZ2,⟨rfl⟩⟩
   ·have hb:(x != 0)=true:=by simpa using h0
    have HO:=As.mk (show orI xs=x from by
     unfold orI
     rw[show xs.find? (fun x=>decide (x≠0))=some x from List.find?_eq_some_iff_getElem.2 ⟨by simpa using h0,i,hlt,(List.getElem?_eq_some_iff.1 hx).2,fun j hj=>by
      have:=HZ.out j _ hj (List.getElem?_eq_getElem (Z0))
      simp[this]⟩]
     rfl)
    clear hx h0
    go_wp2
    go_ret
    exact⟨by rw[HO.out];rfl,rfl⟩
  ·obtain rfl:i=xs.length:=by omega
   have HO:=As.mk (show orI xs=0 from by
    unfold orI
    rw[show xs.find? (fun x=>decide (x≠0))=none from List.find?_eq_none.2 fun x hx=>by
     obtain⟨j,hj,e⟩:=List.getElem_of_mem hx
     have:=HZ.out j x (Z0) (by rw[List.getElem?_eq_getElem hj,e])
     simp[this]]
    rfl)
   clear HZ
   go_wp2
   go_ret
   exact⟨by rw[HO.out];rfl,rfl⟩
structure ClS (a b:Nat) (X Y:Obj) (w':World):Prop where
 a_:w'.heap[a]?=some X
 b_:w'.heap[b]?=some Y
theorem cmp_any (x y:Int) (w:World):Calls Try.prog 26 #[.int .i64 x,.int .i64 y] w fun e w'=>e=.returned (.int .i64 (Lib.compareInt x y))/\w=w':=(Try.cmp_Compare_int x y w).mono fun _ _ ⟨h1,h2⟩=>⟨h1,h2.symm⟩
instance inhE:Inhabited S32:=⟨z32⟩
def encE (x:S32):List Value:=[.int .i64 x.f0,.int .i64 x.f1]
def cfE (x y:S32):Int:=orI [Lib.compareInt y.f1 x.f1,Lib.compareInt x.f0 y.f0]
theorem ltE (x y:S32):ltOf cfE x y=decide (y.f1<x.f1\/(y.f1=x.f1/\x.f0<y.f0)):=by
 unfold ltOf cfE orI Lib.compareInt
 rw[Bool.eq_iff_iff]
 simp only[List.find?_cons,List.find?_nil]
 simp only[decide_eq_true_eq]
 obtain⟨a0,a1⟩:=x
 obtain⟨b0,b1⟩:=y
 dsimp only
 rcases Int.lt_trichotomy b1 a1 with h0|h0|h0
 ·simp[h0]
  try omega
 ·subst h0
  rw[if_neg (Int.lt_irrefl _),if_neg (Int.lt_irrefl _)]
  rcases Int.lt_trichotomy a0 b0 with h1|h1|h1
  ·simp[h1]
   try omega
  ·subst h1
   rw[if_neg (Int.lt_irrefl _),if_neg (Int.lt_irrefl _)]
   simp[*]
   try omega
  ·have k1:¬ a0<b0:=by omega
   simp[h1,k1]
   try omega
 ·have k0:¬ b1<a1:=by omega
  simp[h0,k0]
  try omega
theorem swoE:SWO (ltOf cfE) where
 irrefl x:=by rw[ltE];simp
 trans x y z h1 h2:=by rw[ltE]at *;simp only[decide_eq_true_eq]at *;omega
 ntrans x y z h1 h2:=by rw[ltE]at *;simp only[decide_eq_false_iff_not]at *;omega
theorem antiE (x y:S32) (h1:ltOf cfE x y=false) (h2:ltOf cfE y x=false):x=y:=by
 rw[ltE]at h1 h2
 simp only[decide_eq_false_iff_not]at h1 h2
 obtain⟨a0,a1⟩:=x
 obtain⟨b0,b1⟩:=y
 dsimp only at h1 h2
 congr 1 <;> omega
theorem cloE (x y:S32) (W:World):Calls Try.prog 24 #[.agg #[.int .i64 x.f0,.int .i64 x.f1],.agg #[.int .i64 y.f0,.int .i64 y.f1]] W fun e w'=>e=.returned (.int .i64 (cfE x y))/\∃ q os',w'=grow (W.drewN q) os':=by
 unfold cfE
 obtain⟨w1,hw1⟩:∃ w1,w1=W.alloc (.cells #[.int .i64 x.f0,.int .i64 x.f1] 32):=⟨_,rfl⟩
 obtain⟨w2,hw2⟩:∃ w2,w2=w1.alloc (.cells #[.int .i64 y.f0,.int .i64 y.f1] 32):=⟨_,rfl⟩
 have s1:w1.heap.size=W.heap.size+1:=by rw[hw1];simp
 have ha:w2.heap[W.heap.size]?=some (.cells #[.int .i64 x.f0,.int .i64 x.f1] 32):=by rw[hw2];exact((heap_alloc w1 _).2 _ (Z0)).trans (by rw[hw1];exact(heap_alloc W _).1)
 have hb:w2.heap[W.heap.size+1]?=some (.cells #[.int .i64 y.f0,.int .i64 y.f1] 32):=by rw[hw2,←s1];exact(heap_alloc w1 _).1
 have HD3:=As.mk (below_drew1 (Below.refl w2.heap.size w2))
 have HS3:=As.mk (show ClS W.heap.size (W.heap.size+1) (.cells #[.int .i64 x.f0,.int .i64 x.f1] 32) (.cells #[.int .i64 y.f0,.int .i64 y.f1] 32) w2.drew from⟨(HD3.out.block _ (lt_of ha)).trans ha,(HD3.out.block _ (lt_of hb)).trans hb⟩)
 have HEND:=As.mk (fun(c:Obj)=>(show ∃ q os',w2.drew.alloc c=grow (W.drewN q) os' from⟨1,#[.cells #[.int .i64 x.f0,.int .i64 x.f1] 32,.cells #[.int .i64 y.f0,.int .i64 y.f1] 32,c],Z20⟩))
 have HW:=As.mk (And.intro hw1 hw2)
 clear ha hb s1
 generalize hc0:Lib.compareInt y.f1 x.f1=c0 at *
 generalize hc1:Lib.compareInt x.f0 y.f0=c1 at *
 have HCC:=As.mk ((And.intro hc0 hc1))
 clear hc0 hc1 hw1 hw2
 go_enter Try.func24,Try.ntmps24
 go_wp2
 rw[←HW.out.1,←HW.out.2]
 generalize hw3:w2.drew=w3 at HD3 HS3 HEND
 have HW3:=As.mk hw3
 clear hw3
 have HB4:=As.mk (below_alloc (Below.refl w3.heap.size w3) (.cells #[.int .i64 c0,.int .i64 c1] 3))
 have HROW:=As.mk (show Kd.C (Kd.int .i64) (w3.alloc (.cells #[.int .i64 c0,.int .i64 c1] 3)) (some ⟨w3.heap.size,0,none⟩) [c0,c1].length [c0,c1] from (Kd.R_reads' (Kd.R_of_own (ok:=fun _=>True) (own_lit w3 w3.heap.size 3 .i64 [c0,c1] (Nat.le_refl _) (by simp)) (fun _ _=>trivial))).2.2)
 refine start_ (n:=13) (S:=ClS W.heap.size (W.heap.size+1) (.cells #[.int .i64 x.f0,.int .i64 x.f1] 32) (.cells #[.int .i64 y.f0,.int .i64 y.f1] 32)) (ds:=[]) #[false,false,false,false,false,false,false,false,false,false,false,false,false] (Z5) rfl rfl (by rw[HW3.out];exact HS3.out) (fun hHeld=>?_)
 rw[HW3.out]at hHeld ⊢
 refine pure_ (i:=0) (N:=some 5) (v:=?_) (a':=?_) #[true,false,false,false,false,false,false,false,false,false,false,false,false] rfl rfl (Z5) (fun _ _ _ h=>h) (Or.inl ⟨by rfl,?_⟩) ?_ ?_
 rotate_left
 ·intro w'
  go_simp
  with_reducible rfl
 rotate_left
 ·simp only[Act.put,List.setIfInBounds_toArray,List.set_cons_zero,List.set_cons_succ,i64_w,i32_w]
  rfl
 refine pure_ (i:=2) (N:=some 7) (v:=?_) (a':=?_) #[true,false,true,false,false,false,false,false,false,false,false,false,false] rfl rfl (Z5) (fun _ _ _ h=>h) (Or.inl ⟨by rfl,?_⟩) ?_ ?_
 rotate_left
 ·intro w'
  go_simp
  with_reducible rfl
 rotate_left
 ·simp only[Act.put,List.setIfInBounds_toArray,List.set_cons_zero,List.set_cons_succ,i64_w,i32_w]
  rfl
 refine pure_ (i:=5) (N:=some 10) (v:=?_) (a':=?_) #[true,false,true,false,false,true,false,false,false,false,false,false,false] rfl rfl (Z5) (fun _ _ _ h=>h) (Or.inl ⟨by rfl,?_⟩) ?_ ?_
 rotate_left
 ·intro w'
  go_simp
  with_reducible rfl
 rotate_left
 ·simp only[Act.put,List.setIfInBounds_toArray,List.set_cons_zero,List.set_cons_succ,i64_w,i32_w]
  rfl
 refine pure_ (i:=7) (N:=some 12) (v:=?_) (a':=?_) #[true,false,true,false,false,true,false,true,false,false,false,false,false] rfl rfl (Z5) (fun _ _ _ h=>h) (Or.inl ⟨by rfl,?_⟩) ?_ ?_
 rotate_left
 ·intro w'
  go_simp
  with_reducible rfl
 rotate_left
 ·simp only[Act.put,List.setIfInBounds_toArray,List.set_cons_zero,List.set_cons_succ,i64_w,i32_w]
  rfl
 refine take_ (i:=1) (N:=some 6) (v:=?_) (a':=?_) #[true,true,true,false,false,true,false,true,false,false,false,false,false] rfl rfl (Z5) (fun _ _ _ h=>h) (Or.inl ⟨by rfl,?_⟩) hHeld ?_ ?_
 rotate_left
 ·intro w' hS'
  have s0:=hS'
  have e0:=cell_of (i:=1) hS'.b_ rfl;go_simp
  with_reducible rfl
 rotate_left
 ·simp only[Act.put,List.setIfInBounds_toArray,List.set_cons_zero,List.set_cons_succ,i64_w,i32_w]
  rfl
 refine take_ (i:=3) (N:=some 8) (v:=?_) (a':=?_) #[true,true,true,true,false,true,false,true,false,false,false,false,false] rfl rfl (Z5) (fun _ _ _ h=>h) (Or.inl ⟨by rfl,?_⟩) hHeld ?_ ?_
 rotate_left
 ·intro w' hS'
  have s0:=hS'
  have e0:=cell_of (i:=1) hS'.a_ rfl;go_simp
  with_reducible rfl
 rotate_left
 ·simp only[Act.put,List.setIfInBounds_toArray,List.set_cons_zero,List.set_cons_succ,i64_w,i32_w]
  rfl
 refine take_ (i:=6) (N:=some 11) (v:=?_) (a':=?_) #[true,true,true,true,false,true,true,true,false,false,false,false,false] rfl rfl (Z5) (fun _ _ _ h=>h) (Or.inl ⟨by rfl,?_⟩) hHeld ?_ ?_
 rotate_left
 ·intro w' hS'
  have s0:=hS'
  have e0:=cell_of (i:=0) hS'.a_ rfl;go_simp
  with_reducible rfl
 rotate_left
 ·simp only[Act.put,List.setIfInBounds_toArray,List.set_cons_zero,List.set_cons_succ,i64_w,i32_w]
  rfl
 refine take_ (i:=8) (N:=some 13) (v:=?_) (a':=?_) #[true,true,true,true,false,true,true,true,true,false,false,false,false] rfl rfl (Z5) (fun _ _ _ h=>h) (Or.inl ⟨by rfl,?_⟩) hHeld ?_ ?_
 rotate_left
 ·intro w' hS'
  have s0:=hS'
  have e0:=cell_of (i:=0) hS'.b_ rfl;go_simp
  with_reducible rfl
 rotate_left
 ·simp only[Act.put,List.setIfInBounds_toArray,List.set_cons_zero,List.set_cons_succ,i64_w,i32_w]
  rfl
 refine one_ (i:=4) (N:=some 9) #[true,true,true,true,true,true,true,true,true,false,false,false,false] rfl rfl (Z5) (Z18) (fun K hK=>?_)
 refine goes_ Try.func26 (Z5) rfl #[.int .i64 y.f1,.int .i64 x.f1] (by rfl) rfl rfl (Z21) ?_
 refine(cmp_any y.f1 x.f1 _).mono ?_
 rintro er w10 ⟨rfl,rfl⟩
 refine⟨_,rfl,?_⟩
 rw[HCC.out.1]
 refine hK.out _ _ HS3.out (fun hHeld=>?_)
 clear hK K
 refine norm_ (a':=?_) ?_ ?_
 rotate_left
 ·(simp only[Act.put,List.setIfInBounds_toArray,List.set_cons_zero,List.set_cons_succ];rfl)
 refine one_ (i:=9) (N:=some 14) #[true,true,true,true,true,true,true,true,true,true,false,false,false] rfl rfl (Z5) (Z18) (fun K hK=>?_)
 refine goes_ Try.func26 (Z5) rfl #[.int .i64 x.f0,.int .i64 y.f0] (by rfl) rfl rfl (Z21) ?_
 refine(cmp_any x.f0 y.f0 _).mono ?_
 rintro er w11 ⟨rfl,rfl⟩
 refine⟨_,rfl,?_⟩
 rw[HCC.out.2]
 refine hK.out _ _ HS3.out (fun hHeld=>?_)
 clear hK K
 refine norm_ (a':=?_) ?_ ?_
 rotate_left
 ·(simp only[Act.put,List.setIfInBounds_toArray,List.set_cons_zero,List.set_cons_succ];rfl)
 refine one_ (i:=10) (N:=some 15) #[true,true,true,true,true,true,true,true,true,true,true,false,false] rfl rfl (Z5) (Z18) (fun K hK=>?_)
 refine value_ (w1:=w3.alloc (.cells #[.int .i64 c0,.int .i64 c1] 3)) (v:=.slice (some ⟨w3.heap.size,0,none⟩) 2 2) (by rfl) rfl ?_ ?_
 ·first|(go_simp;done)|(go_simp;rfl)
 refine hK.out _ _ ⟨(HB4.out.block _ (lt_of HS3.out.a_)).trans HS3.out.a_,(HB4.out.block _ (lt_of HS3.out.b_)).trans HS3.out.b_⟩ (fun hHeld=>?_)
 clear hK K
 refine norm_ (a':=?_) ?_ ?_
 rotate_left
 ·(simp only[Act.put,List.setIfInBounds_toArray,List.set_cons_zero,List.set_cons_succ];rfl)
 refine one_ (i:=11) (N:=some 16) #[true,true,true,true,true,true,true,true,true,true,true,true,false] rfl rfl (Z5) (Z18) (fun K hK=>?_)
 refine goes_ Try.func25 (Z5) rfl #[.slice (some ⟨w3.heap.size,0,none⟩) 2 2] (by rfl) rfl rfl (Z21) ?_
 refine(or_any (xs:=[c0,c1]) HROW.out (by simp)).mono ?_
 rintro er w20 ⟨rfl,rfl⟩
 refine⟨_,rfl,?_⟩
 refine hK.out _ _ ⟨(HB4.out.block _ (lt_of HS3.out.a_)).trans HS3.out.a_,(HB4.out.block _ (lt_of HS3.out.b_)).trans HS3.out.b_⟩ (fun hHeld=>?_)
 clear hK K
 refine norm_ (a':=?_) ?_ ?_
 rotate_left
 ·(simp only[Act.put,List.setIfInBounds_toArray,List.set_cons_zero,List.set_cons_succ];rfl)
 refine pure_ (i:=12) (N:=some 4) (v:=?_) (a':=?_) #[true,true,true,true,true,true,true,true,true,true,true,true,true] rfl rfl (Z5) (fun _ _ _ h=>h) (Or.inl ⟨by rfl,?_⟩) ?_ ?_
 rotate_left
 ·intro w'
  go_simp
  with_reducible rfl
 rotate_left
 ·simp only[Act.put,List.setIfInBounds_toArray,List.set_cons_zero,List.set_cons_succ,i64_w,i32_w]
  rfl
 refine done_ (Z5) ?_
 go_wp2
 go_ret
 exact⟨rfl,HEND.out _⟩
instance inhP:Inhabited S35:=⟨z35⟩
def encP (x:S35):List Value:=[.int .i64 x.f0,.int .i64 x.f1,.int .i64 x.f2]
def cfP (x y:S35):Int:=orI [Lib.compareInt y.f2 x.f2,Lib.compareInt x.f0 y.f0,Lib.compareInt x.f1 y.f1]
theorem ltP (x y:S35):ltOf cfP x y=decide (y.f2<x.f2\/(y.f2=x.f2/\(x.f0<y.f0\/(x.f0=y.f0/\x.f1<y.f1)))):=by
 unfold ltOf cfP orI Lib.compareInt
 rw[Bool.eq_iff_iff]
 simp only[List.find?_cons,List.find?_nil]
 simp only[decide_eq_true_eq]
 obtain⟨a0,a1,a2⟩:=x
 obtain⟨b0,b1,b2⟩:=y
 dsimp only
 rcases Int.lt_trichotomy b2 a2 with h0|h0|h0
 ·simp[h0]
  try omega
 ·subst h0
  rw[if_neg (Int.lt_irrefl _),if_neg (Int.lt_irrefl _)]
  rcases Int.lt_trichotomy a0 b0 with h1|h1|h1
  ·simp[h1]
   try omega
  ·subst h1
   rw[if_neg (Int.lt_irrefl _),if_neg (Int.lt_irrefl _)]
   rcases Int.lt_trichotomy a1 b1 with h2|h2|h2
   ·simp[h2]
    try omega
   ·subst h2
    rw[if_neg (Int.lt_irrefl _),if_neg (Int.lt_irrefl _)]
    simp[*]
    try omega
   ·have k2:¬ a1<b1:=by omega
    simp[h2,k2]
    try omega
  ·have k1:¬ a0<b0:=by omega
   simp[h1,k1]
   try omega
 ·have k0:¬ b2<a2:=by omega
  simp[h0,k0]
  try omega
theorem swoP:SWO (ltOf cfP) where
 irrefl x:=by rw[ltP];simp
 trans x y z h1 h2:=by rw[ltP]at *;simp only[decide_eq_true_eq]at *;omega
 ntrans x y z h1 h2:=by rw[ltP]at *;simp only[decide_eq_false_iff_not]at *;omega
theorem antiP (x y:S35) (h1:ltOf cfP x y=false) (h2:ltOf cfP y x=false):x=y:=by
 rw[ltP]at h1 h2
 simp only[decide_eq_false_iff_not]at h1 h2
 obtain⟨a0,a1,a2⟩:=x
 obtain⟨b0,b1,b2⟩:=y
 dsimp only at h1 h2
 congr 1 <;> omega
theorem cloP (x y:S35) (W:World):Calls Try.prog 29 #[.agg #[.int .i64 x.f0,.int .i64 x.f1,.int .i64 x.f2],.agg #[.int .i64 y.f0,.int .i64 y.f1,.int .i64 y.f2]] W fun e w'=>e=.returned (.int .i64 (cfP x y))/\∃ q os',w'=grow (W.drewN q) os':=by
 unfold cfP
 obtain⟨w1,hw1⟩:∃ w1,w1=W.alloc (.cells #[.int .i64 x.f0,.int .i64 x.f1,.int .i64 x.f2] 35):=⟨_,rfl⟩
 obtain⟨w2,hw2⟩:∃ w2,w2=w1.alloc (.cells #[.int .i64 y.f0,.int .i64 y.f1,.int .i64 y.f2] 35):=⟨_,rfl⟩
 have s1:w1.heap.size=W.heap.size+1:=by rw[hw1];simp
 have ha:w2.heap[W.heap.size]?=some (.cells #[.int .i64 x.f0,.int .i64 x.f1,.int .i64 x.f2] 35):=by rw[hw2];exact((heap_alloc w1 _).2 _ (Z0)).trans (by rw[hw1];exact(heap_alloc W _).1)
 have hb:w2.heap[W.heap.size+1]?=some (.cells #[.int .i64 y.f0,.int .i64 y.f1,.int .i64 y.f2] 35):=by rw[hw2,←s1];exact(heap_alloc w1 _).1
 have HD3:=As.mk (below_drew1 (Below.refl w2.heap.size w2))
 have HS3:=As.mk (show ClS W.heap.size (W.heap.size+1) (.cells #[.int .i64 x.f0,.int .i64 x.f1,.int .i64 x.f2] 35) (.cells #[.int .i64 y.f0,.int .i64 y.f1,.int .i64 y.f2] 35) w2.drew from⟨(HD3.out.block _ (lt_of ha)).trans ha,(HD3.out.block _ (lt_of hb)).trans hb⟩)
 have HEND:=As.mk (fun(c:Obj)=>(show ∃ q os',w2.drew.alloc c=grow (W.drewN q) os' from⟨1,#[.cells #[.int .i64 x.f0,.int .i64 x.f1,.int .i64 x.f2] 35,.cells #[.int .i64 y.f0,.int .i64 y.f1,.int .i64 y.f2] 35,c],Z20⟩))
 have HW:=As.mk (And.intro hw1 hw2)
 clear ha hb s1
 generalize hc0:Lib.compareInt y.f2 x.f2=c0 at *
 generalize hc1:Lib.compareInt x.f0 y.f0=c1 at *
 generalize hc2:Lib.compareInt x.f1 y.f1=c2 at *
 have HCC:=As.mk ((And.intro hc0 (And.intro hc1 hc2)))
 clear hc0 hc1 hc2 hw1 hw2
 go_enter Try.func29,Try.ntmps29
 go_wp2
 rw[←HW.out.1,←HW.out.2]
 generalize hw3:w2.drew=w3 at HD3 HS3 HEND
 have HW3:=As.mk hw3
 clear hw3
 have HB4:=As.mk (below_alloc (Below.refl w3.heap.size w3) (.cells #[.int .i64 c0,.int .i64 c1,.int .i64 c2] 3))
 have HROW:=As.mk (show Kd.C (Kd.int .i64) (w3.alloc (.cells #[.int .i64 c0,.int .i64 c1,.int .i64 c2] 3)) (some ⟨w3.heap.size,0,none⟩) [c0,c1,c2].length [c0,c1,c2] from (Kd.R_reads' (Kd.R_of_own (ok:=fun _=>True) (own_lit w3 w3.heap.size 3 .i64 [c0,c1,c2] (Nat.le_refl _) (by simp)) (fun _ _=>trivial))).2.2)
 refine start_ (n:=18) (S:=ClS W.heap.size (W.heap.size+1) (.cells #[.int .i64 x.f0,.int .i64 x.f1,.int .i64 x.f2] 35) (.cells #[.int .i64 y.f0,.int .i64 y.f1,.int .i64 y.f2] 35)) (ds:=[]) #[false,false,false,false,false,false,false,false,false,false,false,false,false,false,false,false,false,false] (Z5) rfl rfl (by rw[HW3.out];exact HS3.out) (fun hHeld=>?_)
 rw[HW3.out]at hHeld ⊢
 refine pure_ (i:=0) (N:=some 5) (v:=?_) (a':=?_) #[true,false,false,false,false,false,false,false,false,false,false,false,false,false,false,false,false,false] rfl rfl (Z5) (fun _ _ _ h=>h) (Or.inl ⟨by rfl,?_⟩) ?_ ?_
 rotate_left
 ·intro w'
  go_simp
  with_reducible rfl
 rotate_left
 ·simp only[Act.put,List.setIfInBounds_toArray,List.set_cons_zero,List.set_cons_succ,i64_w,i32_w]
  rfl
 refine pure_ (i:=2) (N:=some 7) (v:=?_) (a':=?_) #[true,false,true,false,false,false,false,false,false,false,false,false,false,false,false,false,false,false] rfl rfl (Z5) (fun _ _ _ h=>h) (Or.inl ⟨by rfl,?_⟩) ?_ ?_
 rotate_left
 ·intro w'
  go_simp
  with_reducible rfl
 rotate_left
 ·simp only[Act.put,List.setIfInBounds_toArray,List.set_cons_zero,List.set_cons_succ,i64_w,i32_w]
  rfl
 refine pure_ (i:=5) (N:=some 10) (v:=?_) (a':=?_) #[true,false,true,false,false,true,false,false,false,false,false,false,false,false,false,false,false,false] rfl rfl (Z5) (fun _ _ _ h=>h) (Or.inl ⟨by rfl,?_⟩) ?_ ?_
 rotate_left
 ·intro w'
  go_simp
  with_reducible rfl
 rotate_left
 ·simp only[Act.put,List.setIfInBounds_toArray,List.set_cons_zero,List.set_cons_succ,i64_w,i32_w]
  rfl
 refine pure_ (i:=7) (N:=some 12) (v:=?_) (a':=?_) #[true,false,true,false,false,true,false,true,false,false,false,false,false,false,false,false,false,false] rfl rfl (Z5) (fun _ _ _ h=>h) (Or.inl ⟨by rfl,?_⟩) ?_ ?_
 rotate_left
 ·intro w'
  go_simp
  with_reducible rfl
 rotate_left
 ·simp only[Act.put,List.setIfInBounds_toArray,List.set_cons_zero,List.set_cons_succ,i64_w,i32_w]
  rfl
 refine pure_ (i:=10) (N:=some 15) (v:=?_) (a':=?_) #[true,false,true,false,false,true,false,true,false,false,true,false,false,false,false,false,false,false] rfl rfl (Z5) (fun _ _ _ h=>h) (Or.inl ⟨by rfl,?_⟩) ?_ ?_
 rotate_left
 ·intro w'
  go_simp
  with_reducible rfl
 rotate_left
 ·simp only[Act.put,List.setIfInBounds_toArray,List.set_cons_zero,List.set_cons_succ,i64_w,i32_w]
  rfl
 refine pure_ (i:=12) (N:=some 17) (v:=?_) (a':=?_) #[true,false,true,false,false,true,false,true,false,false,true,false,true,false,false,false,false,false] rfl rfl (Z5) (fun _ _ _ h=>h) (Or.inl ⟨by rfl,?_⟩) ?_ ?_
 rotate_left
 ·intro w'
  go_simp
  with_reducible rfl
 rotate_left
 ·simp only[Act.put,List.setIfInBounds_toArray,List.set_cons_zero,List.set_cons_succ,i64_w,i32_w]
  rfl
 refine take_ (i:=1) (N:=some 6) (v:=?_) (a':=?_) #[true,true,true,false,false,true,false,true,false,false,true,false,true,false,false,false,false,false] rfl rfl (Z5) (fun _ _ _ h=>h) (Or.inl ⟨by rfl,?_⟩) hHeld ?_ ?_
 rotate_left
 ·intro w' hS'
  have s0:=hS'
  have e0:=cell_of (i:=2) hS'.b_ rfl;go_simp
  with_reducible rfl
 rotate_left
 ·simp only[Act.put,List.setIfInBounds_toArray,List.set_cons_zero,List.set_cons_succ,i64_w,i32_w]
  rfl
 refine take_ (i:=3) (N:=some 8) (v:=?_) (a':=?_) #[true,true,true,true,false,true,false,true,false,false,true,false,true,false,false,false,false,false] rfl rfl (Z5) (fun _ _ _ h=>h) (Or.inl ⟨by rfl,?_⟩) hHeld ?_ ?_
 rotate_left
 ·intro w' hS'
  have s0:=hS'
  have e0:=cell_of (i:=2) hS'.a_ rfl;go_simp
  with_reducible rfl
 rotate_left
 ·simp only[Act.put,List.setIfInBounds_toArray,List.set_cons_zero,List.set_cons_succ,i64_w,i32_w]
  rfl
 refine take_ (i:=6) (N:=some 11) (v:=?_) (a':=?_) #[true,true,true,true,false,true,true,true,false,false,true,false,true,false,false,false,false,false] rfl rfl (Z5) (fun _ _ _ h=>h) (Or.inl ⟨by rfl,?_⟩) hHeld ?_ ?_
 rotate_left
 ·intro w' hS'
  have s0:=hS'
  have e0:=cell_of (i:=0) hS'.a_ rfl;go_simp
  with_reducible rfl
 rotate_left
 ·simp only[Act.put,List.setIfInBounds_toArray,List.set_cons_zero,List.set_cons_succ,i64_w,i32_w]
  rfl
 refine take_ (i:=8) (N:=some 13) (v:=?_) (a':=?_) #[true,true,true,true,false,true,true,true,true,false,true,false,true,false,false,false,false,false] rfl rfl (Z5) (fun _ _ _ h=>h) (Or.inl ⟨by rfl,?_⟩) hHeld ?_ ?_
 rotate_left
 ·intro w' hS'
  have s0:=hS'
  have e0:=cell_of (i:=0) hS'.b_ rfl;go_simp
  with_reducible rfl
 rotate_left
 ·simp only[Act.put,List.setIfInBounds_toArray,List.set_cons_zero,List.set_cons_succ,i64_w,i32_w]
  rfl
 refine take_ (i:=11) (N:=some 16) (v:=?_) (a':=?_) #[true,true,true,true,false,true,true,true,true,false,true,true,true,false,false,false,false,false] rfl rfl (Z5) (fun _ _ _ h=>h) (Or.inl ⟨by rfl,?_⟩) hHeld ?_ ?_
 rotate_left
 ·intro w' hS'
  have s0:=hS'
  have e0:=cell_of (i:=1) hS'.a_ rfl;go_simp
  with_reducible rfl
 rotate_left
 ·simp only[Act.put,List.setIfInBounds_toArray,List.set_cons_zero,List.set_cons_succ,i64_w,i32_w]
  rfl
 refine take_ (i:=13) (N:=some 18) (v:=?_) (a':=?_) #[true,true,true,true,false,true,true,true,true,false,true,true,true,true,false,false,false,false] rfl rfl (Z5) (fun _ _ _ h=>h) (Or.inl ⟨by rfl,?_⟩) hHeld ?_ ?_
 rotate_left
 ·intro w' hS'
  have s0:=hS'
  have e0:=cell_of (i:=1) hS'.b_ rfl;go_simp
  with_reducible rfl
 rotate_left
 ·simp only[Act.put,List.setIfInBounds_toArray,List.set_cons_zero,List.set_cons_succ,i64_w,i32_w]
  rfl
 refine one_ (i:=4) (N:=some 9) #[true,true,true,true,true,true,true,true,true,false,true,true,true,true,false,false,false,false] rfl rfl (Z5) (Z18) (fun K hK=>?_)
 refine goes_ Try.func26 (Z5) rfl #[.int .i64 y.f2,.int .i64 x.f2] (by rfl) rfl rfl (Z21) ?_
 refine(cmp_any y.f2 x.f2 _).mono ?_
 rintro er w10 ⟨rfl,rfl⟩
 refine⟨_,rfl,?_⟩
 rw[HCC.out.1]
 refine hK.out _ _ HS3.out (fun hHeld=>?_)
 clear hK K
 refine norm_ (a':=?_) ?_ ?_
 rotate_left
 ·(simp only[Act.put,List.setIfInBounds_toArray,List.set_cons_zero,List.set_cons_succ];rfl)
 refine one_ (i:=9) (N:=some 14) #[true,true,true,true,true,true,true,true,true,true,true,true,true,true,false,false,false,false] rfl rfl (Z5) (Z18) (fun K hK=>?_)
 refine goes_ Try.func26 (Z5) rfl #[.int .i64 x.f0,.int .i64 y.f0] (by rfl) rfl rfl (Z21) ?_
 refine(cmp_any x.f0 y.f0 _).mono ?_
 rintro er w11 ⟨rfl,rfl⟩
 refine⟨_,rfl,?_⟩
 rw[HCC.out.2.1]
 refine hK.out _ _ HS3.out (fun hHeld=>?_)
 clear hK K
 refine norm_ (a':=?_) ?_ ?_
 rotate_left
 ·(simp only[Act.put,List.setIfInBounds_toArray,List.set_cons_zero,List.set_cons_succ];rfl)
 refine one_ (i:=14) (N:=some 19) #[true,true,true,true,true,true,true,true,true,true,true,true,true,true,true,false,false,false] rfl rfl (Z5) (Z18) (fun K hK=>?_)
 refine goes_ Try.func26 (Z5) rfl #[.int .i64 x.f1,.int .i64 y.f1] (by rfl) rfl rfl (Z21) ?_
 refine(cmp_any x.f1 y.f1 _).mono ?_
 rintro er w12 ⟨rfl,rfl⟩
 refine⟨_,rfl,?_⟩
 rw[HCC.out.2.2]
 refine hK.out _ _ HS3.out (fun hHeld=>?_)
 clear hK K
 refine norm_ (a':=?_) ?_ ?_
 rotate_left
 ·(simp only[Act.put,List.setIfInBounds_toArray,List.set_cons_zero,List.set_cons_succ];rfl)
 refine one_ (i:=15) (N:=some 20) #[true,true,true,true,true,true,true,true,true,true,true,true,true,true,true,true,false,false] rfl rfl (Z5) (Z18) (fun K hK=>?_)
 refine value_ (w1:=w3.alloc (.cells #[.int .i64 c0,.int .i64 c1,.int .i64 c2] 3)) (v:=.slice (some ⟨w3.heap.size,0,none⟩) 3 3) (by rfl) rfl ?_ ?_
 ·first|(go_simp;done)|(go_simp;rfl)
 refine hK.out _ _ ⟨(HB4.out.block _ (lt_of HS3.out.a_)).trans HS3.out.a_,(HB4.out.block _ (lt_of HS3.out.b_)).trans HS3.out.b_⟩ (fun hHeld=>?_)
 clear hK K
 refine norm_ (a':=?_) ?_ ?_
 rotate_left
 ·(simp only[Act.put,List.setIfInBounds_toArray,List.set_cons_zero,List.set_cons_succ];rfl)
 refine one_ (i:=16) (N:=some 21) #[true,true,true,true,true,true,true,true,true,true,true,true,true,true,true,true,true,false] rfl rfl (Z5) (Z18) (fun K hK=>?_)
 refine goes_ Try.func25 (Z5) rfl #[.slice (some ⟨w3.heap.size,0,none⟩) 3 3] (by rfl) rfl rfl (Z21) ?_
 refine(or_any (xs:=[c0,c1,c2]) HROW.out (by simp)).mono ?_
 rintro er w20 ⟨rfl,rfl⟩
 refine⟨_,rfl,?_⟩
 refine hK.out _ _ ⟨(HB4.out.block _ (lt_of HS3.out.a_)).trans HS3.out.a_,(HB4.out.block _ (lt_of HS3.out.b_)).trans HS3.out.b_⟩ (fun hHeld=>?_)
 clear hK K
 refine norm_ (a':=?_) ?_ ?_
 rotate_left
 ·(simp only[Act.put,List.setIfInBounds_toArray,List.set_cons_zero,List.set_cons_succ];rfl)
 refine pure_ (i:=17) (N:=some 4) (v:=?_) (a':=?_) #[true,true,true,true,true,true,true,true,true,true,true,true,true,true,true,true,true,true] rfl rfl (Z5) (fun _ _ _ h=>h) (Or.inl ⟨by rfl,?_⟩) ?_ ?_
 rotate_left
 ·intro w'
  go_simp
  with_reducible rfl
 rotate_left
 ·simp only[Act.put,List.setIfInBounds_toArray,List.set_cons_zero,List.set_cons_succ,i64_w,i32_w]
  rfl
 refine done_ (Z5) ?_
 go_wp2
 go_ret
 exact⟨rfl,HEND.out _⟩
end Go.Proofs.Ythcpdiknejblnaa.Ta
