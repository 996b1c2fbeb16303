import Derived.Lib.Builder
import Derived.Lib.AppendStr
import Derived.Test.YtkffhgiiejbnaaaGreatQ01
import Derived.Test.YtkffhgiiejbnaaaGreatQAid
import Derived.Test.YtkffhgiiejbnaaaGreatQShelf
import Derived.Test.YtkffhgiiejbnaaaGreatQSetB
import Derived.Test.YtkffhgiiejbnaaaGreatQMarkRef
set_option maxRecDepth 100000
set_option maxHeartbeats 2000000
set_option linter.unusedVariables false
set_option linter.unusedSimpArgs false
namespace Go.Proofs.YtkffhgiiejbnaaaGreat.Bd
open Go.RowKit YtkffhgiiejbnaaaGreatW.PrintWords Aid
theorem bld_info:∃ j,Tryz.prog.info? 230=some j/\j.size=2:=Option.map_eq_some_iff.1 (Z15:(Tryz.prog.info? 230).map (·.size)=some 2)
theorem bld_lies:liesAt Tryz.prog Tryz.prog.depth 230 (2 / Tryz.prog.cellsOf 230) 0 230 1=true:=Z15
theorem byte_info:∃ i0,Tryz.prog.info? 5=some i0/\i0.zero=some (.int .u8 0)/\i0.size=1/\i0.bytes=1:=by
 obtain⟨i,h1,h2⟩:=Option.map_eq_some_iff.1 (Z15:(Tryz.prog.info? 5).map (fun i=>(i.zero,i.size,i.bytes))=some (some (.int .u8 0),1,1))
 simp only[Prod.mk.injEq]at h2
 exact⟨i,h1,h2.1,h2.2.1,h2.2.2⟩
theorem check_used (b:Nat) (w:World) (c0:w.cell? ⟨b,0,none⟩=some (.pointer (some ⟨b,0,none⟩))) :
  Calls Tryz.prog 164 #[.pointer (some ⟨b,0,none⟩)] w fun e w'=>e=.returned (.tuple #[])/\w'=w:=by
 obtain⟨j,hj,_⟩:=bld_info
 go_enter Tryz.func164,Tryz.ntmps164
 go_wp2_with fail
 rw[Lib.run_neq_ptr_same w _ Tryz.underlying228 hj]
 go_wp2
 go_end0
 exact⟨rfl,rfl⟩
theorem check_new (b:Nat) (w:World) (h0:w.cell? ⟨b,0,none⟩=some (.pointer none)) (hsh:w.shape? b=some (230,2)) (hfz:w.frozen? ⟨b,0,none⟩=false) :
  Calls Tryz.prog 164 #[.pointer (some ⟨b,0,none⟩)] w fun e w'=>e=.returned (.tuple #[])/\w'=w.setCell ⟨b,0,none⟩ (.pointer (some ⟨b,0,none⟩)):=by
 obtain⟨j,hj,hjs⟩:=bld_info
 go_enter Tryz.func164,Tryz.ntmps164
 go_wp2_with fail
 rw[Lib.run_to_unsafe w ⟨b,0,none⟩ Tryz.underlying228 Tryz.underlying270 hj (by rw[hjs];decide) hsh (Nat.zero_lt_succ 1)]
 simp only[Result.andThen]
 rw[Oper.upon_value]
 go_wp2_with fail
 rw[run_callFunc_extern Tryz.func176 (Z15) (Z15) (Z15) (e:=Extern.AbiNoEscape.same) (Z15)]
 rw[Lib.run_noEscape]
 simp only[Result.andThen]
 rw[Oper.upon_value]
 go_wp2_with fail
 rw[Lib.run_from_unsafe w ⟨b,0,none⟩ Tryz.underlying270 Tryz.underlying228 hj hsh bld_lies]
 simp only[Result.andThen]
 rw[Oper.upon_value]
 go_wp2
 go_end0
 exact⟨rfl,rfl⟩
theorem check_any (B b:Nat) (bs:List Value) (w:World) (h:Lib.IsBuilder 230 5 B b bs w) :
  Calls Tryz.prog 164 #[.pointer (some ⟨b,0,none⟩)] w fun e w'=>e=.returned (.tuple #[])/\(Lib.BuilderAt 230 5 B b (.pointer (some ⟨b,0,none⟩)) bs w'/\Below B w w'):=by
 rcases h with h|h
 ·refine(check_new b w h.cell0 h.shape h.frozen0).mono ?_
  rintro e w' ⟨rfl,rfl⟩
  exact⟨rfl,h.used _,(Below.refl B w).setCell (p:=⟨b,0,none⟩) h.1 _⟩
 ·refine(check_used b w h.cell0).mono ?_
  rintro e w' ⟨rfl,rfl⟩
  exact⟨rfl,h,Below.refl B _⟩
theorem writeByte_any (B b:Nat) (bs:List Value) (c:Int) (w:World) (h:Lib.IsBuilder 230 5 B b bs w) (hlen:bs.length+1≤140737488355328) (hBw:B≤w.heap.size) :
  Calls Tryz.prog 136 #[.pointer (some ⟨b,0,none⟩),.int .u8 c] w fun e w'=>e=.returned .nilIface/\(Lib.BuilderAt 230 5 B b (.pointer (some ⟨b,0,none⟩)) (bs++[.int .u8 c]) w'/\Below B w w'):=by
 obtain⟨i0,hi,hz0,hz1,hz2⟩:=byte_info
 have H:=As.mk h
 clear h
 go_enter Tryz.func136,Tryz.ntmps136
 go_wp2_with (go_at_call 164;refine(check_any B b bs _ H.out).mono ?_)
 rintro e w1 ⟨rfl,h1,hb1⟩
 obtain⟨hB,v,hbk,hown,hne⟩:=h1
 have c0:w1.cell? ⟨b,0,none⟩=some (.pointer (some ⟨b,0,none⟩)):=Z97
 have c1:w1.cell? ⟨b,1,none⟩=some v:=Z97
 go_wp2_with (at_builtin;refine wpList_append_own _ rfl _ _ 109 rfl B 5 i0 (.int .u8 0) 1 1 Tryz.underlying109 hi hz0 hz1 hz2 rfl (Z31) _ _ _ rfl (hown.alloc _) ⟨w1.heap.size,0,none⟩ 1 1 [.int .u8 c] rfl rfl ?c1 ?c2 ?c3 ?c4 ?c5 ?_)
 case c1 =>
  intro j u hj
  match j,hj with
  | 0,hj=>simp at hj;subst hj;simp[Addr.add]
 case c2=>intro u hu;simp at hu;subst hu;rfl
 case c3=>unfold maxLen;omega
 case c4=>omega
 case c5=>have:=hb1.size;simp;omega
 intro v' w2 hown' hgrow _
 have hlt:b<w1.heap.size:=by
  rcases Nat.lt_or_ge b w1.heap.size with h'|h'
  ·exact h'
  ·simp[Array.getElem?_eq_none h']at hbk
 have hb2:w2.heap[b]?=some (.cells #[.pointer (some ⟨b,0,none⟩),v] 230 (0,0)):=by
  rw[hgrow.block b (Z6) (fun e=>hne e.symm),Lib.alloc_old w1 _ b hlt]
  exact hbk
 have d0:w2.cell? ⟨b,0,none⟩=some (.pointer (some ⟨b,0,none⟩)):=Z98
 have d1:w2.cell? ⟨b,1,none⟩=some v:=Z98
 have f1:w2.frozen? ⟨b,1,none⟩=false:=Lib.frozen_of_heap hb2 1
 obtain⟨g,cap,rfl⟩:∃ g cap,v'=.slice (some ⟨g,0,none⟩) (bs.length+1) cap:=by
  rcases hown'.2 with⟨_,h0⟩|⟨g,cap,cur,hv,_⟩
  ·omega
  ·exact⟨g,cap,hv⟩
 go_wp2
 go_ret
 refine⟨rfl,?_,?_⟩
 ·exact Lib.BuilderAt.put (T:=230) (e:=5) hB hb2 (bs':=bs++[.int .u8 c]) (by simpa using hown') (Z31)
 ·exact((hb1.alloc (by have:=hb1.size;omega) _).grown hgrow (by have:=hb1.size;simp;omega) (fun k hk=>(hown.lt k hk).1)).setCell (p:=⟨b,1,none⟩) hB _
theorem writeString_any (B b:Nat) (bs:List Value) (s:ByteArray) (w:World) (h:Lib.IsBuilder 230 5 B b bs w) (hlen:bs.length+s.size≤140737488355328) (hBw:B≤w.heap.size) :
  Calls Tryz.prog 137 #[.pointer (some ⟨b,0,none⟩),.string s] w fun e w'=>e=.returned (.tuple #[.int .i64 s.size,.nilIface])/\(Lib.BuilderAt 230 5 B b (.pointer (some ⟨b,0,none⟩)) (bs++Lib.strCells s) w'/\Below B w w'):=by
 obtain⟨i0,hi,hz0,hz1,hz2⟩:=byte_info
 have H:=As.mk h
 clear h
 go_enter Tryz.func137,Tryz.ntmps137
 go_wp2_with (go_at_call 164;refine(check_any B b bs _ H.out).mono ?_)
 rintro e w1 ⟨rfl,h1,hb1⟩
 obtain⟨hB,v,hbk,hown,hne⟩:=h1
 have c0:w1.cell? ⟨b,0,none⟩=some (.pointer (some ⟨b,0,none⟩)):=Z97
 have c1:w1.cell? ⟨b,1,none⟩=some v:=Z97
 go_wp2_with (at_builtin;refine Lib.wpList_append_own_string _ rfl _ _ 109 9 rfl B 5 i0 Tryz.underlying109 Tryz.underlying9 hi hz0 hz1 hz2 _ _ _ rfl hown s rfl ?c3 ?c4 ?c5 ?_)
 case c3=>unfold maxLen;omega
 case c4=>omega
 case c5=>have:=hb1.size;omega
 intro v' w2 hown' hgrow _
 have hlt:b<w1.heap.size:=by
  rcases Nat.lt_or_ge b w1.heap.size with h'|h'
  ·exact h'
  ·simp[Array.getElem?_eq_none h']at hbk
 have hb2:w2.heap[b]?=some (.cells #[.pointer (some ⟨b,0,none⟩),v] 230 (0,0)):=by
  rw[hgrow.block b hlt (fun e=>hne e.symm)]
  exact hbk
 have d0:w2.cell? ⟨b,0,none⟩=some (.pointer (some ⟨b,0,none⟩)):=Z98
 have d1:w2.cell? ⟨b,1,none⟩=some v:=Z98
 have f1:w2.frozen? ⟨b,1,none⟩=false:=Lib.frozen_of_heap hb2 1
 obtain⟨ao,n',cap,rfl⟩:∃ ao n' cap,v'=.slice ao n' cap:=by
  rcases hown'.2 with⟨hv,_⟩|⟨g,cap,cur,hv,_⟩
  ·exact⟨_,_,_,hv⟩
  ·exact⟨_,_,_,hv⟩
 go_wp2
 go_ret2
 refine⟨rfl,?_,?_⟩
 ·exact Lib.BuilderAt.put (T:=230) (e:=5) hB hb2 (bs':=bs++Lib.strCells s) (by simpa[Lib.strCells_length] using hown') (Z31)
 ·exact(hb1.grown hgrow (by have:=hb1.size;omega) (fun k hk=>(hown.lt k hk).1)).setCell (p:=⟨b,1,none⟩) hB _
end Go.Proofs.YtkffhgiiejbnaaaGreat.Bd
namespace Go.Proofs.YtkffhgiiejbnaaaGreat.Mk
open Go.RowKit YtkffhgiiejbnaaaGreatW.PrintWords YtkffhgiiejbnaaaGreatW.PrintLast YtkffhgiiejbnaaaGreatW.PrintMore Rf Aid Mp Bd
def rendF (H:Int->Sp × Bool):List Int->Option (List UInt8)
 | []=>some []
 | n::l=>if 0≤n/\n<256 then (rendF H l).map (UInt8.ofNat n.toNat::·) else if (H n).2=true then (rendF H l).map ((H n).1.f1.data.toList++·) else none
theorem rend_byte {H:Int->Sp × Bool} {n:Int} {l:List Int} (h:0≤n/\n<256) (acc:List UInt8):(rendF H (n::l)).map (acc++·)=(rendF H l).map ((acc++[UInt8.ofNat n.toNat])++·):=by
 rw[rendF,if_pos h,Option.map_map];congr 1;funext x;simp
theorem rend_mark {H:Int->Sp × Bool} {n:Int} {l:List Int} (h:¬ (0≤n/\n<256)) (hH:(H n).2=true) (acc:List UInt8):(rendF H (n::l)).map (acc++·)=(rendF H l).map ((acc++(H n).1.f1.data.toList)++·):=by
 rw[rendF,if_neg h,if_pos hH,Option.map_map];congr 1;funext x;simp
theorem rend_none {H:Int->Sp × Bool} {n:Int} {l:List Int} (h:¬ (0≤n/\n<256)) (hH:(H n).2=false):rendF H (n::l)=none:=by
 rw[rendF,if_neg h,if_neg (by simp[hH])]
def rendV (o:Option (List UInt8)):Value:=.tuple #[.string (match o with|some l=>⟨l.toArray⟩|none=>⟨#[]⟩),.bool o.isSome]
theorem byteCells_snoc (l:List UInt8) (n:Int) (h:0≤n/\n<256):Lib.byteCells l++[.int .u8 n]=Lib.byteCells (l++[UInt8.ofNat n.toNat]):=by
 simp only[Lib.byteCells,List.map_append,List.map_cons,List.map_nil]
 congr 3
 obtain⟨k,rfl⟩:=Int.eq_ofNat_of_zero_le h.1
 have:k % 256=k:=Nat.mod_eq_of_lt (Z1)
 simp[UInt8.toNat_ofNat,this]
theorem strCells_eq (s:ByteArray):Lib.strCells s=Lib.byteCells s.data.toList:=by rfl
theorem byteCells_app (l m:List UInt8):Lib.byteCells l++Lib.byteCells m=Lib.byteCells (l++m):=by simp[Lib.byteCells]
theorem isB_below {T e B b:Nat} {bs:List Value} {w w':World} (h:Lib.IsBuilder T e B b bs w) (hb:Below w.heap.size w w'):Lib.IsBuilder T e B b bs w':=by
 rcases h with⟨h1,v,h2,h3,h4⟩|⟨h1,v,h2,h3,h4⟩
 ·exact .inl ⟨h1,v,(hb.block _ (Array.getElem?_eq_some_iff.1 h2).1).trans h2,pw_own_below h3 hb,h4⟩
 ·exact .inr ⟨h1,v,(hb.block _ (Array.getElem?_eq_some_iff.1 h2).1).trans h2,pw_own_below h3 hb,h4⟩
theorem render_of (sv:Value) (H:Int->Sp × Bool) (A:Option Addr) (c:Nat) (xs:List Int) (w:World) (hsz:∀ n,(H n).1.f1.size≤64)
  (hH:∀ W n,Below w.heap.size w W->Calls Tryz.prog 97 #[sv,.int .i64 n] W fun e w'=>e=.returned (.tuple #[spV (H n).1,.bool (H n).2])/\Below W.heap.size W w')
  (hr:Kd.C (Kd.int .i64) w A xs.length xs) (hl:xs.length≤1000000000000) :
  Calls Tryz.prog 105 #[sv,.slice A xs.length c] w fun e w'=>e=.returned (rendV (rendF H xs))/\Below w.heap.size w w':=by
 have HR:=As.mk hr
 have HH:=As.mk hH
 have HZ:=As.mk hsz
 clear hr hH hsz
 obtain⟨R,hR⟩:∃ R,rendF H xs=R:=⟨_,rfl⟩
 rw[hR]
 have HR0:=As.mk hR
 clear hR
 go_enter Tryz.func105,Tryz.ntmps105
 go_wp2_with fail
 have HB0:=As.mk (below_alloc (Below.refl w.heap.size w) (.cells #[.pointer none,.slice none 0 0] 230))
 have HI0:As (Lib.IsBuilder 230 5 w.heap.size w.heap.size (Lib.byteCells []) (w.alloc (.cells #[.pointer none,.slice none 0 0] 230))) :=
  ⟨.inl ⟨Nat.le_refl _,.slice none 0 0,by show (w.heap.push _)[w.heap.size]?=_;rw[Array.getElem?_push,if_pos rfl],own_nil _ _ _ _,Z7⟩⟩
 generalize w.alloc (.cells #[.pointer none,.slice none 0 0] 230)=W0 at HB0 HI0 ⊢
 go_loopg [13] xs.length (fun k v w'=>∃ (i:Nat) (acc:List UInt8),v=.int .i64 i/\i≤xs.length/\As (Lib.IsBuilder 230 5 w.heap.size w.heap.size (Lib.byteCells acc) w')/\As ((rendF H (xs.drop i)).map (acc++·)=R)/\As (xs.length-i≤k)/\As (acc.length≤i * 64)/\As (Below w.heap.size w w'))
 case atStart=>exact⟨0,[],rfl,Nat.zero_le _,HI0,⟨by have:=HR0.out;simpa using this⟩,⟨Z1⟩,⟨by simp⟩,HB0⟩
 case round =>
  clear HI0 HB0 HR0
  obtain⟨i,acc,rfl,hi,HI,HA,HK,HL,HB⟩:=hrel
  by_cases hlt:i<xs.length
  ·obtain⟨k1,rfl⟩:∃ k1,gk=k1+1:=⟨gk-1,Z65⟩
   have hltI:(i:Int)<xs.length:=Z1
   have hcr:=Kd.C_below HR.out HB.out
   have hcell:=hcr.2.2 (Z1)
   obtain⟨ad,rfl,hcell⟩:=hcell
   obtain⟨cc,h1,h2,h3⟩:=hcell i (xs[i]) (by rw[List.getElem?_eq_getElem hlt])
   have x0:=h3 0 (.int .i64 xs[i]) (by rw[show cc=[.int .i64 xs[i]] from h2];rfl)
   rw[show i * (Kd.int IntKind.i64).sz+0=i from by show i * 1+0=i;omega]at x0
   clear hcr hcell h1 h2 h3
   have hd:xs.drop i=xs[i]::xs.drop (i+1):=List.drop_eq_getElem_cons hlt
   have HA1:=As.mk (show (rendF H (xs[i]::xs.drop (i+1))).map (acc++·)=R from hd ▸ HA.out)
   clear HA hd
   generalize xs[i]=n at *
   by_cases hn:0≤n/\n<256
   ·have hA:=HA1.out
    rw[rend_byte hn]at hA
    have HA:=As.mk hA
    have HN:=As.mk (byteCells_snoc acc n hn)
    obtain⟨hn0,hn1⟩:=hn
    clear hA HA1
    go_wp2_with (go_at_call 136;refine(writeByte_any w.heap.size w.heap.size (Lib.byteCells acc) n _ HI.out (Z99) HB.out.size).mono ?_;rintro e w1 ⟨rfl,hI,hb⟩;rw[HN.out]at hI;have HI1:=As.mk (Or.inr hI:Lib.IsBuilder 230 5 w.heap.size w.heap.size _ w1);have HB1:=As.mk (HB.out.trans hb);clear hI hb HI HB)
    go_roundg k1
    case measure=>omega
    case rel=>exact⟨i+1,_,Z67,Z1,HI1,HA,⟨Z65⟩,⟨by have:=HL.out;simp;omega⟩,HB1⟩
   ·have hn':0≤n->¬ n<256:=fun h0 h1=>hn ⟨h0,h1⟩
    cases hb2:(H n).2 with
    | true =>
     have hA:=HA1.out
     rw[rend_mark hn hb2]at hA
     have HA:=As.mk hA
     have HS:=As.mk (HH.out)
     have hz:=HZ.out n
     have HN:=As.mk hn
     clear hA HA1
     have HE:=As.mk hb2
     have HZZ:=As.mk (show (H n).1.f1.data.toList.length≤64 by rw[←Lib.size_eq];exact hz)
     clear hb2
     by_cases h0:0≤n
     ·have h1:=hn' h0
      clear hn hn'
      go_wp2_with (first
       | (go_at_call 97;refine(HS.out _ n HB.out).mono ?_;rintro e w1 ⟨rfl,hb⟩;rw[HE.out];unfold spV;have HB1:=As.mk (bt_ HB.out hb);have HI1:=As.mk (isB_below HI.out hb);clear HB HI hb)
       | (go_at_call 137;refine(writeString_any w.heap.size w.heap.size (Lib.byteCells acc) (H n).1.f1 _ (isB_below HI1.out (below_alloc (Below.refl _ _) _)) (Z99) (below_alloc HB1.out _).size).mono ?_;rintro e w2 ⟨rfl,hI,hb⟩;rw[strCells_eq,byteCells_app]at hI;have HI2:=As.mk (Or.inr hI:Lib.IsBuilder 230 5 w.heap.size w.heap.size _ w2);have HB2:=As.mk ((below_alloc HB1.out _).trans hb);clear hI hb HI1 HB1))
      go_roundg k1
      case measure=>omega
      case rel=>exact⟨i+1,_,Z67,Z1,HI2,HA,⟨Z65⟩,⟨Z100⟩,HB2⟩
     ·clear hn hn'
      go_wp2_with (first
       | (go_at_call 97;refine(HS.out _ n HB.out).mono ?_;rintro e w1 ⟨rfl,hb⟩;rw[HE.out];unfold spV;have HB1:=As.mk (bt_ HB.out hb);have HI1:=As.mk (isB_below HI.out hb);clear HB HI hb)
       | (go_at_call 137;refine(writeString_any w.heap.size w.heap.size (Lib.byteCells acc) (H n).1.f1 _ (isB_below HI1.out (below_alloc (Below.refl _ _) _)) (Z99) (below_alloc HB1.out _).size).mono ?_;rintro e w2 ⟨rfl,hI,hb⟩;rw[strCells_eq,byteCells_app]at hI;have HI2:=As.mk (Or.inr hI:Lib.IsBuilder 230 5 w.heap.size w.heap.size _ w2);have HB2:=As.mk ((below_alloc HB1.out _).trans hb);clear hI hb HI1 HB1))
      go_roundg k1
      case measure=>omega
      case rel=>exact⟨i+1,_,Z67,Z1,HI2,HA,⟨Z65⟩,⟨Z100⟩,HB2⟩
    | false =>
     have hA:=HA1.out
     rw[rend_none hn hb2]at hA
     simp only[Option.map_none]at hA
     subst hA
     have HS:=As.mk (HH.out)
     have HE:=As.mk hb2
     clear hb2 HA1
     by_cases h0:0≤n
     ·have h1:=hn' h0
      clear hn hn'
      go_wp2_with (go_at_call 97;refine(HS.out _ n HB.out).mono ?_;rintro e w1 ⟨rfl,hb⟩;rw[HE.out];unfold spV;have HB1:=As.mk (bt_ HB.out hb);clear HB hb)
      go_ret2
      exact⟨rfl,below_alloc HB1.out _⟩
     ·clear hn hn'
      go_wp2_with (go_at_call 97;refine(HS.out _ n HB.out).mono ?_;rintro e w1 ⟨rfl,hb⟩;rw[HE.out];unfold spV;have HB1:=As.mk (bt_ HB.out hb);clear HB hb)
      go_ret2
      exact⟨rfl,below_alloc HB1.out _⟩
  ·obtain rfl:i=xs.length:=by omega
   have hA:=HA.out
   rw[List.drop_length]at hA
   simp only[rendF,Option.map_some,List.append_nil]at hA
   subst hA
   have hge:¬ (xs.length:Int)<xs.length:=Z1
   go_wp2_with (go_at_call 138;refine(Tryz.Builder_String_any w.heap.size w.heap.size acc _ HI.out HB.out.size).mono ?_;rintro e w1 ⟨rfl,hb⟩;have HB1:=As.mk (HB.out.trans hb);clear hb HB)
   go_ret2
   exact⟨rfl,HB1.out⟩
end Go.Proofs.YtkffhgiiejbnaaaGreat.Mk
namespace Go.Proofs.YtkffhgiiejbnaaaGreat.Mk
open Go.RowKit YtkffhgiiejbnaaaGreatW.PrintWords YtkffhgiiejbnaaaGreatW.PrintLast YtkffhgiiejbnaaaGreatW.PrintMore Rf Aid Mp
theorem size_noS:(spNo).f1.size≤64:=by show 0≤64;omega
theorem hasP_size {S:List Sp} (hS:GoodS S) (n:Int):(hasP S n).1.f1.size≤64:=by
 unfold hasP
 split
 ·rename_i h
  have h1:(-1-n).toNat<S.length:=Z1
  have:rd_T93 S (-1-n)=S[(-1-n).toNat]:=by
   unfold rd_T93;rw[List.getD_eq_getElem?_getD,List.getElem?_eq_getElem h1];rfl
  show (rd_T93 S (-1-n)).f1.size≤64
  rw[this]
  exact(hS.good _ (List.getElem_mem h1)).2.2.2
 ·exact size_noS
theorem render_any {p:Nat} {S:List Sp} {w:World} (h:SetAt w p S) (A:Option Addr) (c:Nat) (xs:List Int) (hr:Kd.C (Kd.int .i64) w A xs.length xs) (hl:xs.length≤1000000000000) :
  Calls Tryz.prog 105 #[.pointer (some ⟨p,0,none⟩),.slice A xs.length c] w fun e w'=>e=.returned (rendV (rendF (hasP S) xs))/\Below w.heap.size w w' :=
 render_of _ (hasP S) A c xs w (hasP_size h.goodS) (fun W n hb=>has_any (h.below hb) n) hr hl
end Go.Proofs.YtkffhgiiejbnaaaGreat.Mk
