import Derived.Test.YtkffhgiiejbnaaaGreatQHp
import Derived.Test.YtkffhgiiejbnaaaGreatQ01
import Derived.Test.YtkffhgiiejbnaaaGreatQ02
set_option maxRecDepth 100000
set_option maxHeartbeats 400000
set_option linter.unusedVariables false
set_option linter.unusedSimpArgs false
namespace Go.Proofs.YtkffhgiiejbnaaaGreat.Dc
open Go.RowKit YtkffhgiiejbnaaaGreatW.PrintWords YtkffhgiiejbnaaaGreatW.PrintLast YtkffhgiiejbnaaaGreatW.PrintMore Rf Aid Mp Hp
attribute [local go_sem] Aid.max_two Aid.min_two min2_mn max2_mx
def ndI (b:Int):Int:=if b / 32=6 then 2 else if b / 16=14 then 3 else if b / 8=30 then 4 else 0
theorem need_some (b:Int):decode_need.f b=some (ndI b):=by
 unfold decode_need.f ndI
 split
 ·rfl
 ·split
  ·rfl
  ·split <;> rfl
theorem goes_run (T:ByteArray) (hT:T.size≤1000000000):∀ (d k i:Nat),T.size-i=d->d<k->i≤T.size->decode_goes.l0 k T (T.size:Int) (i:Int)=some ((List.range T.size).drop i |>.all fun j=>decide (bt T (j:Int) / 64=2))
 | 0,k,i,h0,h1,h2=>by
  obtain⟨k,rfl⟩:∃ m,k=m+1:=⟨k-1,Z1⟩
  simp only[decode_goes.l0]
  rw[if_neg (Z1),List.drop_eq_nil_of_le (Z6)];rfl
 | d+1,k,i,h0,h1,h2=>by
  obtain⟨k,rfl⟩:∃ m,k=m+1:=⟨k-1,Z1⟩
  simp only[decode_goes.l0]
  rw[if_pos (Z1),if_pos (Z1),if_pos (Z1),List.drop_eq_getElem_cons (Z6),List.all_cons]
  simp only[List.getElem_range]
  by_cases hx:bt T (i:Int) / 64=2
  ·rw[if_pos hx,w64 (Z1) (Z1),show ((i:Int)+1)=((i+1:Nat):Int) from Z1,goes_run T hT d k (i+1) (Z1) (Z1) (Z1),decide_eq_true hx,Bool.true_and]
  ·rw[if_neg hx,decide_eq_false hx,Bool.false_and]
def goB (T:ByteArray):Bool:=(List.range T.size).all fun j=>decide (bt T (j:Int) / 64=2)
theorem goes_some (T:ByteArray) (hT:T.size≤1000000000):decode_goes.f (T.size+1) T=some (goB T):=goes_run T hT T.size (T.size+1) 0 (Z1) (Z1) (Z1)
def tailB (s:ByteArray) (n:Nat):ByteArray:=s.extract (s.size-n) s.size
theorem tailB_size {s:ByteArray} {n:Nat} (h:n≤s.size):(tailB s n).size=n:=by unfold tailB;rw[ByteArray.size_extract];omega
def holdsB (s:ByteArray) (n:Nat):Bool:=decide ((n:Int)<ndI (bt (tailB s n) 0)) && goB ((tailB s n).extract 1 (tailB s n).size)
def heldN (s:ByteArray):Nat->Nat
 | 0=>0
 | n+1=>if holdsB s (n+1)=true then n+1 else heldN s n
def heldF (s:ByteArray):Nat:=heldN s (min 3 s.size)
theorem slice_str (s:ByteArray) (q:Nat) (h:q≤s.size) (W:World):(Instr.slice 9 (.string s) (some (.int .i64 (q:Int))) none none).run Tryz.prog W=.ok (.string (s.extract q s.size)) W:=by
 have h1:(q:Int)≤(s.size:Int):=Z1
 simp[Instr.slice,run_underlying Tryz.underlying9,go_sem,Result.andThen,h1,h]
theorem held_any (s:ByteArray) (hs:s.size≤1000000000) (w:World):Calls Tryz.prog 31 #[.string s] w fun e w'=>e=.returned (.int .i64 (heldF s:Int))/\Below w.heap.size w w':=by
 have HF0:=As.mk (show heldN s (min 3 s.size)=heldF s from rfl)
 generalize heldF s=R at *
 have hmn:mnI 3 (s.size:Int)=((min 3 s.size:Nat):Int):=by unfold mnI;split <;> omega
 have HM:min 3 s.size≤s.size:=Nat.min_le_right _ _
 generalize min 3 s.size=N at *
 go_enter Tryz.func31,Tryz.ntmps31
 go_wp2
 go_loopg [3] N (fun k v w'=>∃ (n:Nat),v=.int .i64 n/\n≤s.size/\As (n≤k)/\As (heldN s n=R)/\As (Below w.heap.size w w'))
 case atStart=>exact⟨N,rfl,HM,⟨Nat.le_refl _⟩,HF0,⟨Below.refl _ _⟩⟩
 case round =>
  clear HF0
  obtain⟨n,rfl,hn,HK,HF,HB⟩:=hrel
  cases n with
  | zero =>
   have hA:0=R:=HF.out
   subst hA
   go_wp2
   go_ret
   exact⟨rfl,HB.out⟩
  | succ n =>
   obtain⟨k1,rfl⟩:∃ k1,gk=k1+1:=⟨gk-1,Z65⟩
   have hnI:(0:Int)<((n+1:Nat):Int):=Z1
   obtain⟨q,hq⟩:∃ q,s.size=q+(n+1):=⟨s.size-(n+1),Z1⟩
   have hsl:=slice_str s q (Z1)
   have hT:s.extract q s.size=tailB s (n+1):=by unfold tailB;congr 1;omega
   have hTs:=tailB_size (s:=s) (n:=n+1) hn
   rw[hT]at hsl
   have hA:=HF.out
   unfold heldN holdsB at hA
   have hsl2:∀ W:World,(Instr.slice 9 (.string (tailB s (n+1))) (some (.int .i64 1)) none none).run Tryz.prog W=.ok (.string ((tailB s (n+1)).extract 1 (tailB s (n+1)).size)) W:=slice_str (tailB s (n+1)) 1 (Z1)
   generalize tailB s (n+1)=T at *
   have hx8:∀ h:0<T.size,((T[0]'h).toNat:Int)=bt T 0:=bt_at T 0
   have HG:=As.mk (fun W=>decode_goes.calls _ _ (goB (T.extract 1 T.size)) W (goes_some (T.extract 1 T.size) (Z91)))
   have HN:=As.mk (fun W=>decode_need.calls (bt T 0) _ W (need_some (bt T 0)))
   generalize T.extract 1 T.size=T2 at *
   have q8:0<T.size:=Z1
   have q9:(0:Int)<(T.size:Int):=Z1
   have hA:=As.mk hA
   have hK:=HK.out
   clear HK HF hTs hT
   generalize ndI (bt T 0)=z at *
   generalize goB T2=g at *
   obtain⟨m,hm⟩:∃ m,m=n+1:=⟨_,rfl⟩
   rw[←hm]at hA hnI hq hn
   have hwq1:(0:Int)≤(q:Int):=Z1
   have hqb:(q:Int)≤1000000000:=Z1
   have HH:=As.mk (And.intro hm (And.intro hK (And.intro hq hs)))
   have hgo:((n+1:Nat):Int)=(m:Int):=by rw[hm]
   rw[hgo]
   clear hgo hm hK hn hs
   by_cases hz1:(m:Int)<z
   ·rw[decide_eq_true hz1,Bool.true_and]at hA
    cases g with
    | true =>
     rw[if_pos rfl]at hA
     have HA':=As.mk hA.out
     clear hA
     go_wp2_with (first
      | (go_at_call 74;refine(HN.out _).mono ?_;rintro e w1 ⟨rfl,hd⟩;obtain⟨n1,rfl⟩:=hd.out;clear hd)
      | (go_at_call 75;refine(HG.out _).mono ?_;rintro e w2 ⟨rfl,hd⟩;obtain⟨n2,rfl⟩:=hd.out;clear hd))
     go_ret
     rw[←HA'.out]
     exact⟨rfl,pw_below_drewN HB.out _⟩
    | false =>
     rw[if_neg (Z31)]at hA
     have HA':=As.mk hA.out
     clear hA
     go_wp2_with (first
      | (go_at_call 74;refine(HN.out _).mono ?_;rintro e w1 ⟨rfl,hd⟩;obtain⟨n1,rfl⟩:=hd.out;clear hd)
      | (go_at_call 75;refine(HG.out _).mono ?_;rintro e w2 ⟨rfl,hd⟩;obtain⟨n2,rfl⟩:=hd.out;clear hd))
     have e6:(q:Int)+(m:Int)=(s.size:Int):=by have:=HH.out.2.2.1;omega
     rw[e6]
     clear e6 hq
     go_roundg k1
     case measure=>omega
     case rel=>exact⟨n,Z186,Z158,⟨Z158⟩,HA',⟨pw_below_drewN HB.out _⟩⟩
   ·rw[decide_eq_false hz1,Bool.false_and,if_neg (Z31)]at hA
    have HA':=As.mk hA.out
    have hz2:decide ((m:Int)<z)=false:=decide_eq_false hz1
    clear hA
    go_wp2_with (go_at_call 74;refine(HN.out _).mono ?_;rintro e w1 ⟨rfl,hd⟩;obtain⟨n1,rfl⟩:=hd.out;clear hd)
    have e6:(q:Int)+(m:Int)=(s.size:Int):=by have:=HH.out.2.2.1;omega
    rw[e6]
    clear e6 hq
    go_roundg k1
    case measure=>omega
    case rel=>exact⟨n,Z186,Z158,⟨Z158⟩,HA',⟨pw_below_drewN HB.out _⟩⟩
end Go.Proofs.YtkffhgiiejbnaaaGreat.Dc
