import Derived.ShutString
import Derived.Test.YtkffhgiiejbnaaaGreatQ01
import Derived.Test.YtkffhgiiejbnaaaGreatQAid
import Derived.Test.YtkffhgiiejbnaaaGreatQMap
set_option maxHeartbeats 400000
set_option linter.unusedVariables false
set_option linter.unusedSimpArgs false
namespace Go.Proofs.YtkffhgiiejbnaaaGreat.Mk
open Go.RowKit YtkffhgiiejbnaaaGreatW.PrintWords YtkffhgiiejbnaaaGreatW.PrintLast YtkffhgiiejbnaaaGreatW.PrintMore Rf Aid Mp
attribute [local go_sem] Aid.max_two Aid.min_two min2_mn max2_mx
abbrev Sp:=S93
abbrev kSp:=k93
def idx (S:List Sp) (s:ByteArray):Option Nat:=S.findIdx? (fun x=>decide (x.f1=s))
def idxI (S:List Sp) (i:Int):Option Nat:=S.findIdx? (fun x=>decide (x.f0=i))
def mostOf (S:List Sp):Nat:=S.foldl (fun m x=>max m x.f1.size) 0
def firstOf (S:List Sp) (b:Nat):Bool:=S.any (fun x=>decide (bt x.f1 0=(b:Int)))
def txl (S:List Sp):List (ByteArray × Value):=S.zipIdx.map (fun p=>(p.1.f1,.int .i64 (p.2:Int)))
def idl (S:List Sp):List (Int × Value):=S.zipIdx.map (fun p=>(p.1.f0,.int .i64 (p.2:Int)))
theorem get_zip {κ:Type} [DecidableEq κ] (f:Sp->κ) (k:κ):∀ (S:List Sp) (n:Nat),get? ((S.zipIdx n).map (fun p=>(f p.1,Value.int .i64 (p.2:Int)))) k=(S.findIdx? (fun x=>decide (f x=k))).map (fun i=>.int .i64 ((n+i:Nat):Int))
 | [],n=>rfl
 | x::S,n=>by
  rw[List.zipIdx_cons,List.map_cons,get?_cons,List.findIdx?_cons]
  by_cases h:f x=k
  ·simp[h]
  ·simp only[h,if_false,decide_false,Bool.false_eq_true]
   rw[get_zip f k S (n+1),Option.map_map]
   congr 1;funext i;simp only[Function.comp];congr 2;omega
theorem get_txl (S:List Sp) (s:ByteArray):get? (txl S) s=(idx S s).map (fun i=>.int .i64 (i:Int)):=by
 have:=get_zip (fun x=>x.f1) s S 0
 simpa[txl,idx] using this
theorem get_idl (S:List Sp) (i:Int):get? (idl S) i=(idxI S i).map (fun i=>.int .i64 (i:Int)):=by
 have:=get_zip (fun x=>x.f0) i S 0
 simpa[idl,idxI] using this
structure SetAt (w:World) (p:Nat) (S:List Sp):Prop where
 good:∀ x∈S,0≤x.f0/\x.f0≤1073741824/\1≤x.f1.size/\x.f1.size≤64
 few:S.length≤32
 apartI:(S.map (·.f0)).Nodup
 apartT:(S.map (·.f1)).Nodup
 rows:∃ A c,w.cell? ⟨p,0,none⟩=some (.slice A S.length c)/\S.length≤c/\Kd.C kSp w A S.length S
 ids:∃ b,w.cell? ⟨p,1,none⟩=some (.map (some b))/\MapIs encInt w b (idl S)
 texts:∃ b,w.cell? ⟨p,2,none⟩=some (.map (some b))/\MapIs encStr w b (txl S)
 first:∀ i,i<256->w.cell? ⟨p,3+i,none⟩=some (.bool (firstOf S i))
 most:w.cell? ⟨p,259,none⟩=some (.int .i64 (mostOf S))
theorem SetAt.below {w w':World} {p:Nat} {S:List Sp} (h:SetAt w p S) (hb:Below w.heap.size w w'):SetAt w' p S:=by
 obtain⟨h1,h2,h3,h4,⟨A,c,r1,r2,r3⟩,⟨b,i1,i2⟩,⟨b',t1,t2⟩,f,m⟩:=h
 exact⟨h1,h2,h3,h4,⟨A,c,pw_cell_below hb r1,r2,Kd.C_below r3 hb⟩,⟨b,pw_cell_below hb i1,i2.of_block (hb.block _ i2.lt)⟩,⟨b',pw_cell_below hb t1,t2.of_block (hb.block _ t2.lt)⟩,fun i hi=>pw_cell_below hb (f i hi),pw_cell_below hb m⟩
theorem most_le {S:List Sp} (h:∀ x∈S,x.f1.size≤64):mostOf S≤64:=by
 unfold mostOf
 have:∀ (S:List Sp) (m:Nat),m≤64->(∀ x∈S,x.f1.size≤64)->S.foldl (fun m x=>max m x.f1.size) m≤64:=by
  intro S
  induction S with
  | nil=>intro m hm _;exact hm
  | cons x S ih=>intro m hm h;exact ih _ (Nat.max_le.2 ⟨hm,h x (by simp)⟩) (fun y hy=>h y (by simp[hy]))
 exact this S 0 (Z1) h
theorem idx_lt {S:List Sp} {s:ByteArray} {j:Nat} (h:idx S s=some j):j<S.length:=by
 unfold idx at h
 exact(List.findIdx?_eq_some_iff_getElem.1 h).1
theorem idxI_lt {S:List Sp} {i:Int} {j:Nat} (h:idxI S i=some j):j<S.length:=by
 unfold idxI at h
 exact(List.findIdx?_eq_some_iff_getElem.1 h).1
theorem item_any (i:Int) (w:World):Calls Tryz.prog 133 #[.int .i64 i] w fun e w'=>e=.returned (.int .i64 (wrap64 (-1-i)))/\w=w':=by
 go_enter Tryz.func133,Tryz.ntmps133
 go_wp2
 go_ret
 exact⟨rfl,rfl⟩
theorem len_any (p n c:Nat) (A:Option Addr) (w:World) (hl:w.cell? ⟨p,0,none⟩=some (.slice A n c)):Calls Tryz.prog 80 #[.pointer (some ⟨p,0,none⟩)] w fun e w'=>e=.returned (.int .i64 n)/\w=w':=by
 go_enter Tryz.func80,Tryz.ntmps80
 go_wp2
 go_ret
 exact⟨rfl,rfl⟩
def atN (S:List Sp) (s:ByteArray):Nat->Option Nat
 | 0=>none
 | n+1=>if (idx S (s.extract 0 (n+1))).isSome then idx S (s.extract 0 (n+1)) else atN S s n
theorem atN_succ (S:List Sp) (s:ByteArray) (n:Nat):atN S s (n+1)=if (idx S (s.extract 0 (n+1))).isSome then idx S (s.extract 0 (n+1)) else atN S s n:=rfl
def markV (o:Option Nat):Value:=.int .i64 (match o with|some i=>-1-(i:Int)|none=>0)
def markT (o:Option Nat):Value:=.tuple #[markV o,.bool o.isSome]
def atP (S:List Sp) (s:ByteArray):Option Nat:=if 0<s.size then (if firstOf S (bt s 0).toNat then atN S s (min (mostOf S) s.size) else none) else none
theorem at_empty (p:Nat) (s:ByteArray) (h0:s.size=0) (w:World):Calls Tryz.prog 96 #[.pointer (some ⟨p,0,none⟩),.string s] w fun e w'=>e=.returned (markT none)/\Drawn w w':=by
 have e0:s.toList=[]:=toList_nil h0
 go_enter Tryz.func96,Tryz.ntmps96
 go_wp2
 go_quiet (fail)
 go_wp2
 go_ret2
 exact⟨rfl,Z90⟩
theorem at_not (p:Nat) (s:ByteArray) (w:World) (e1:0<s.size) (hF:w.cell? ⟨p,3+(s[0]).toNat,none⟩=some (.bool false)) :
  Calls Tryz.prog 96 #[.pointer (some ⟨p,0,none⟩),.string s] w fun e w'=>e=.returned (markT none)/\Drawn w w':=by
 have e0:s.toList.isEmpty=false:=toList_some e1
 have e2:(0:Int)<s.size:=Z1
 have hlt:=(s[0]).toNat_lt
 go_enter Tryz.func96,Tryz.ntmps96
 go_wp2
 go_quiet (fail)
 go_wp2
 go_ret2
 exact⟨rfl,Z90⟩
theorem at_loop (p bt:Nat) (most:Nat) (S:List Sp) (s:ByteArray) (w:World) (e1:0<s.size) (hs:s.size≤9223372036854775807)
  (ht:w.cell? ⟨p,2,none⟩=some (.map (some bt))) (hm:w.cell? ⟨p,259,none⟩=some (.int .i64 most)) (hmm:most≤64)
  (hF:w.cell? ⟨p,3+(s[0]).toNat,none⟩=some (.bool true)) (hT:MapIs encStr w bt (txl S)) (hl:S.length≤32) :
  Calls Tryz.prog 96 #[.pointer (some ⟨p,0,none⟩),.string s] w fun e w'=>e=.returned (markT (atN S s (min most s.size)))/\Drawn w w':=by
 have e0:s.toList.isEmpty=false:=toList_some e1
 have e2:(0:Int)<s.size:=Z1
 have hlt:=(s[0]).toNat_lt
 obtain⟨N,hN⟩:∃ N,N=min most s.size:=⟨_,rfl⟩
 rw[←hN]
 have hN1:N≤s.size:=Z1
 have hmn:mnI (most:Int) (s.size:Int)=(N:Int):=by unfold mnI;split <;> omega
 clear hN
 obtain⟨r,hr⟩:∃ r,atN S s N=r:=⟨_,rfl⟩
 rw[hr]
 have HR:=As.mk hr
 have HT:=As.mk hT
 have HL:=As.mk hl
 clear hr hT hl
 go_enter Tryz.func96,Tryz.ntmps96
 go_wp2
 go_quiet (fail)
 go_wp2
 go_loopg [6] N (fun k v w'=>v=.int .i64 k/\k≤N/\As (atN S s k=r)/\Drawn w w')
 case atStart=>exact⟨rfl,Nat.le_refl _,HR,Z90⟩
 case round =>
  obtain⟨rfl,hk,HA,⟨m1,rfl⟩⟩:=hrel
  clear HR
  cases gk with
  | zero =>
   go_wp2
   go_ret2
   have h1:=HA.out
   simp only[atN]at h1
   subst h1
   exact⟨rfl,Z90⟩
  | succ k1 =>
   have hL:∀ m,(Instr.lookup 189 (.map (some bt)) (.string (s.extract 0 (k1+1))) true).run Tryz.prog (w.drewN m)=.ok (.tuple #[(get? (txl S) (s.extract 0 (k1+1))).getD (.int .i64 0),.bool (get? (txl S) (s.extract 0 (k1+1))).isSome]) (w.drewN m):=fun m =>
    lookup_ok (E:=encStr) Tryz.underlying189 Tryz.underlying9 (HT.out.of_block (by simp)) (s.extract 0 (k1+1)) (Z15)
   have hsl:∀ w',(Instr.slice 9 (.string s) none (some (.int .i64 ((k1:Int)+1))) none).run Tryz.prog w'=.ok (.string (s.extract 0 (k1+1))) w':=fun w'=>slice_to Tryz.underlying9 s _ (k1+1) (Z1) (Z1) w'
   have hA:=HA.out
   rw[atN_succ]at hA
   rw[get_txl]at hL
   cases hi:idx S (s.extract 0 (k1+1)) with
   | some j =>
    rw[hi]at hL hA
    have HA':=As.mk hA
    have hjl:j<32:=Nat.lt_of_lt_of_le (idx_lt hi) HL.out
    clear HA hi hA HL HT
    simp only[Option.map_some,Option.getD_some,Option.isSome_some]at hL
    go_wp2
    go_quiet (fail)
    go_wp2_with (go_at_call 133;refine(item_any _ _).mono ?_;rintro e w' ⟨rfl,rfl⟩)
    go_ret2
    have h1:=HA'.out
    simp only[Option.isSome_some,if_true]at h1
    subst h1
    exact⟨Z179,Z90⟩
   | none =>
    rw[hi]at hL hA
    have HA':=As.mk hA
    clear HA hi hA
    simp only[Option.map_none,Option.getD_none,Option.isSome_none]at hL
    go_wp2
    go_quiet (fail)
    go_wp2
    go_roundg k1
    case measure=>omega
    case rel=>exact⟨Z67,Z1,⟨by have h1:=HA'.out;simpa using h1⟩,Z90⟩
theorem at_any {p:Nat} {S:List Sp} {w:World} (h:SetAt w p S) (s:ByteArray) (hs:s.size≤9223372036854775807) :
  Calls Tryz.prog 96 #[.pointer (some ⟨p,0,none⟩),.string s] w fun e w'=>e=.returned (markT (atP S s))/\Drawn w w':=by
 unfold atP
 by_cases h0:0<s.size
 ·rw[if_pos h0]
  have e:(bt s 0).toNat=(s[0]).toNat:=by rw[←bt_at s 0 h0];simp
  have hF:=h.first (s[0]).toNat (by have:=(s[0]).toNat_lt;omega)
  rw[e]
  cases hf:firstOf S (s[0]).toNat with
  | false =>
   rw[hf]at hF
   rw[if_neg (by simp)]
   exact at_not p s w h0 hF
  | true =>
   rw[hf]at hF
   rw[if_pos rfl]
   obtain⟨b,t1,t2⟩:=h.texts
   exact at_loop p b (mostOf S) S s w h0 hs t1 h.most (most_le fun x hx=>(h.good x hx).2.2.2) hF t2 h.few
 ·rw[if_neg h0]
  exact at_empty p s (Z1) w
end Go.Proofs.YtkffhgiiejbnaaaGreat.Mk
namespace Go.Proofs.YtkffhgiiejbnaaaGreat.Mk
open Go.RowKit YtkffhgiiejbnaaaGreatW.PrintWords YtkffhgiiejbnaaaGreatW.PrintLast YtkffhgiiejbnaaaGreatW.PrintMore Rf Aid Mp
def spV (x:Sp):Value:=.agg #[.int .i64 x.f0,.string x.f1]
def spNo:Sp:=⟨0,⟨#[]⟩⟩
theorem has_no_pos (v:Value) (m:Int) (w:World) (hm:0≤m):Calls Tryz.prog 97 #[v,.int .i64 m] w fun e w'=>e=.returned (.tuple #[spV spNo,.bool false])/\Below w.heap.size w w':=by
 go_enter Tryz.func97,Tryz.ntmps97
 go_wp2
 refine bodyPost_ret (v:=.tuple #[spV spNo,.bool false]) ?_ rfl ⟨rfl,?_⟩
 ·simp[results,Tryz.results97,go_sem,spV,spNo]
 ·exact(Below.refl _ _).alloc (Nat.le_refl _) _
theorem has_no_neg (p n c:Nat) (A:Option Addr) (m:Int) (w:World) (hl:w.cell? ⟨p,0,none⟩=some (.slice A n c)) (hm0:m<0) (hm:m < -(n:Int)) (hn:n≤32) :
  Calls Tryz.prog 97 #[.pointer (some ⟨p,0,none⟩),.int .i64 m] w fun e w'=>e=.returned (.tuple #[spV spNo,.bool false])/\Below w.heap.size w w':=by
 have hp:p<w.heap.size:=World.block_lt_of_cell? w _ hl
 go_enter Tryz.func97,Tryz.ntmps97
 go_wp2_with (go_at_call 80;refine(len_any p n c A _ ((World.cell?_alloc_lt _ _ _ hp).trans hl)).mono ?_;rintro e w' ⟨rfl,rfl⟩)
 refine bodyPost_ret (v:=.tuple #[spV spNo,.bool false]) ?_ rfl ⟨rfl,?_⟩
 ·simp[results,Tryz.results97,go_sem,spV,spNo]
 ·exact(Below.refl _ _).alloc (Nat.le_refl _) _
theorem has_yes (p c:Nat) (A:Option Addr) (S:List Sp) (m:Int) (w:World) (hl:w.cell? ⟨p,0,none⟩=some (.slice A S.length c)) (hr:Kd.C kSp w A S.length S) (hm0:m<0) (hm:-(S.length:Int)≤m) (hn:S.length≤32) :
  Calls Tryz.prog 97 #[.pointer (some ⟨p,0,none⟩),.int .i64 m] w fun e w'=>e=.returned (.tuple #[spV (rd_T93 S (-1-m)),.bool true])/\Below w.heap.size w w':=by
 obtain⟨ad,rfl,x0,x1⟩:=at_T93 hr (-1-m) (Z1) (Z1)
 have i0:0≤-1-m:=Z1
 have i1:-1-m<(S.length:Int):=Z1
 have hp:p<w.heap.size:=World.block_lt_of_cell? w _ hl
 have hp2:(ad.add ((-1-m).toNat * 2)).block<w.heap.size:=World.block_lt_of_cell? w _ x0
 clear hr
 generalize rd_T93 S (-1-m)=x at *
 go_enter Tryz.func97,Tryz.ntmps97
 go_wp2_with (go_at_call 80;refine(len_any p S.length c (some ad) _ ((World.cell?_alloc_lt _ _ _ hp).trans hl)).mono ?_;rintro e w' ⟨rfl,rfl⟩)
 refine bodyPost_ret (v:=.tuple #[spV x,.bool true]) ?_ rfl ⟨rfl,?_⟩
 ·simp[results,Tryz.results97,go_sem,spV]
 ·exact(Below.refl _ _).alloc (Nat.le_refl _) _
def hasP (S:List Sp) (m:Int):Sp × Bool:=if m<0/\-(S.length:Int)≤m then (rd_T93 S (-1-m),true) else (spNo,false)
theorem has_any {p:Nat} {S:List Sp} {w:World} (h:SetAt w p S) (m:Int) :
  Calls Tryz.prog 97 #[.pointer (some ⟨p,0,none⟩),.int .i64 m] w fun e w'=>e=.returned (.tuple #[spV (hasP S m).1,.bool (hasP S m).2])/\Below w.heap.size w w':=by
 obtain⟨A,c,r1,r2,r3⟩:=h.rows
 unfold hasP
 by_cases h0:m<0
 ·by_cases h1:-(S.length:Int)≤m
  ·rw[if_pos ⟨h0,h1⟩];exact has_yes p c A S m w r1 r3 h0 h1 h.few
  ·rw[if_neg (Z1)];exact has_no_neg p S.length c A m w r1 h0 (Z1) h.few
 ·rw[if_neg (Z1)];exact has_no_pos _ m w (Z1)
theorem id_of (v:Value) (m:Int) (x:Sp) (b:Bool) (w:World) (h:Calls Tryz.prog 97 #[v,.int .i64 m] w fun e w'=>e=.returned (.tuple #[spV x,.bool b])/\Below w.heap.size w w') :
  Calls Tryz.prog 129 #[v,.int .i64 m] w fun e w'=>e=.returned (.tuple #[.int .i64 x.f0,.bool b])/\Below w.heap.size w w':=by
 have H:=As.mk h
 clear h
 unfold spV at H
 go_enter Tryz.func129,Tryz.ntmps129
 go_wp2_with (go_at_call 97;refine H.out.mono ?_;rintro e w1 ⟨rfl,hb1⟩)
 go_ret2
 exact⟨rfl,below_alloc hb1 _⟩
theorem id_any {p:Nat} {S:List Sp} {w:World} (h:SetAt w p S) (m:Int) :
  Calls Tryz.prog 129 #[.pointer (some ⟨p,0,none⟩),.int .i64 m] w fun e w'=>e=.returned (.tuple #[.int .i64 (hasP S m).1.f0,.bool (hasP S m).2])/\Below w.heap.size w w':=id_of _ m _ _ w (has_any h m)
theorem mark_of (p b:Nat) (S:List Sp) (i:Int) (w:World) (hi:w.cell? ⟨p,1,none⟩=some (.map (some b))) (hI:MapIs encInt w b (idl S)) (hl:S.length≤32) :
  Calls Tryz.prog 98 #[.pointer (some ⟨p,0,none⟩),.int .i64 i] w fun e w'=>e=.returned (markT (idxI S i))/\w=w':=by
 have hL:(Instr.lookup 188 (.map (some b)) (.int .i64 i) true).run Tryz.prog w=.ok (.tuple #[(get? (idl S) i).getD (.int .i64 0),.bool (get? (idl S) i).isSome]) w :=
  lookup_ok (E:=encInt) Tryz.underlying188 Tryz.underlying3 hI i (Z15)
 rw[get_idl]at hL
 clear hI
 cases hx:idxI S i with
 | none =>
  rw[hx]at hL
  clear hx
  simp only[Option.map_none,Option.getD_none,Option.isSome_none]at hL
  go_enter Tryz.func98,Tryz.ntmps98
  go_wp2
  go_ret2
  exact⟨rfl,rfl⟩
 | some j =>
  have hjl:j<32:=Nat.lt_of_lt_of_le (idxI_lt hx) hl
  rw[hx]at hL
  clear hx
  simp only[Option.map_some,Option.getD_some,Option.isSome_some]at hL
  go_enter Tryz.func98,Tryz.ntmps98
  go_wp2_with (go_at_call 133;refine(item_any _ _).mono ?_;rintro e w' ⟨rfl,rfl⟩)
  go_ret2
  exact⟨Z179,rfl⟩
theorem mark_any {p:Nat} {S:List Sp} {w:World} (h:SetAt w p S) (i:Int) :
  Calls Tryz.prog 98 #[.pointer (some ⟨p,0,none⟩),.int .i64 i] w fun e w'=>e=.returned (markT (idxI S i))/\w=w':=by
 obtain⟨b,i1,i2⟩:=h.ids
 exact mark_of p b S i w i1 i2 h.few
def parseF (S:List Sp) (s:ByteArray):Nat->Nat->List Int
 | 0,_=>[]
 | f+1,i=>if i<s.size then (match atP S (s.extract i s.size) with
  | none=>bt s i::parseF S s f (i+1)
  | some j=>(-1-(j:Int))::parseF S s f (i+(rd_T93 S j).f1.size)) else []
def parseP (S:List Sp) (s:ByteArray):List Int:=parseF S s s.size 0
theorem parseF_nil {S:List Sp} {s:ByteArray} {f i:Nat} (h:¬ i<s.size):parseF S s f i=[]:=by
 cases f with
 | zero=>rfl
 | succ f=>simp[parseF,h]
theorem parseF_byte {S:List Sp} {s:ByteArray} {f i:Nat} (h:i<s.size) (ha:atP S (s.extract i s.size)=none):parseF S s (f+1) i=bt s i::parseF S s f (i+1):=by
 rw[parseF,if_pos h,ha]
theorem parseF_mark {S:List Sp} {s:ByteArray} {f i j:Nat} (h:i<s.size) (ha:atP S (s.extract i s.size)=some j):parseF S s (f+1) i=(-1-(j:Int))::parseF S s f (i+(rd_T93 S j).f1.size):=by
 rw[parseF,if_pos h,ha]
theorem parseF_length (S:List Sp) (s:ByteArray):∀ f i,(parseF S s f i).length≤f
 | 0,_=>by simp[parseF]
 | f+1,i=>by
  unfold parseF
  split
  ·split
   ·have:=parseF_length S s f (i+1);simp;omega
   ·rename_i j _;have:=parseF_length S s f (i+(rd_T93 S j).f1.size);simp;omega
  ·simp
end Go.Proofs.YtkffhgiiejbnaaaGreat.Mk
