import Derived.BigQuiet
import Derived.Test.YtkffhgiiejbnaaaGreatZSkI
import Derived.Test.YtkffhgiiejbnaaaGreatZRefL
import Derived.Test.YtkffhgiiejbnaaaGreatZEncU
import Derived.Test.YtkffhgiiejbnaaaGreatZSkJ
set_option maxRecDepth 100000
set_option maxHeartbeats 4000000
set_option linter.unusedVariables false
set_option linter.unusedSimpArgs false
namespace Go.Proofs.YtkffhgiiejbnaaaGreat.Sk
open Go.Shelf Go.RowKit YtkffhgiiejbnaaaGreatW.PrintWords YtkffhgiiejbnaaaGreatW.PrintLast YtkffhgiiejbnaaaGreatW.PrintMore Rf Aid Mp Hp Tk Vc En Rt
def posL (p xs:List Int):List Nat:=(List.range (xs.length+1-p.length)).filter (fun a=>decide ((xs.drop a).take p.length=p))
theorem posL_snoc {p xs:List Int} {y:Int} (hp:p≠[]):posL p (xs++[y])=posL p xs++(if metF p (xs++[y])=p.length then [xs.length+1-p.length] else []):=by
 have hpos:=List.length_pos_iff.2 hp
 unfold posL
 rw[List.length_append,List.length_singleton]
 by_cases hl:xs.length+1<p.length
 ·rw[show xs.length+1+1-p.length=0 from Z1,show xs.length+1-p.length=0 from Z1,if_neg]
  ·rfl
  ·intro h
   have:=(metF_ends p (xs++[y])).len
   rw[h,List.length_append,List.length_singleton]at this
   omega
 ·rw[show xs.length+1+1-p.length=(xs.length+1-p.length)+1 from Z1,List.range_succ,List.filter_append]
  congr 1
  ·refine List.filter_congr fun a ha=>?_
   have:=List.mem_range.1 ha
   rw[List.drop_append_of_le_length (Z1),List.take_append_of_le_length (Z2)]
  ·have hdl:((xs++[y]).drop (xs.length+1-p.length)).length=p.length:=by rw[List.length_drop,List.length_append,List.length_singleton];omega
   rw[List.filter_cons,List.filter_nil,List.take_of_length_le (Nat.le_of_eq hdl)]
   have hiff:(xs++[y]).drop (xs.length+1-p.length)=p↔metF p (xs++[y])=p.length:=by
    rw[met_whole]
    constructor
    ·intro h
     have h2:=List.drop_suffix (xs.length+1-p.length) (xs++[y])
     rw[h]at h2
     exact h2
    ·rintro⟨t,ht⟩
     have hlen:=congrArg List.length ht
     rw[List.length_append,List.length_append,List.length_singleton]at hlen
     rw[←ht,show xs.length+1-p.length=t.length from Z1,List.drop_left]
   by_cases h:metF p (xs++[y])=p.length
   ·rw[if_pos h,if_pos (by rw[decide_eq_true_eq];exact hiff.2 h)]
   ·rw[if_neg h,if_neg (by rw[decide_eq_true_eq];exact fun e=>h (hiff.1 e))]
def castL (l:List Nat):List Int:=l.map (fun a:Nat=>(a:Int))
theorem castL_app (a b:List Nat):castL (a++b)=castL a++castL b:=List.map_append
theorem hits_at {p xs:List Int} (hp:p≠[]) (L:List (Int × Int)) (T:Nat) (its:List Int):∀ j,j≤its.length->castL (posL p (xs++its.take j))=castL (posL p xs)++((List.range j).flatMap (hitF p xs L T its)).map (·.f0)
 | 0,_=>by simp
 | j+1,h=>by
  have ih:=hits_at (xs:=xs) hp L T its j (Z1)
  obtain⟨y,hy⟩:∃ y,its[j]?=some y:=⟨_,List.getElem?_eq_getElem (Z1)⟩
  have e:xs++its.take (j+1)=(xs++its.take j)++[y]:=Z171
  rw[hit_next,List.map_append,←List.append_assoc,←ih,e,posL_snoc hp,castL_app]
  congr 1
  unfold hitF
  rw[e]
  by_cases hm:metF p ((xs++its.take j)++[y])=p.length
  ·rw[if_pos hm,if_pos hm]
   have hle:=(metF_ends p ((xs++its.take j)++[y])).len
   rw[hm]at hle
   simp only[List.length_append,List.length_take,List.length_singleton]at hle ⊢
   have hmn:min j its.length=j:=Z1
   rw[hmn]at hle ⊢
   show [((xs.length+j+1-p.length:Nat):Int)]=[atF p xs j]
   unfold atF
   congr 1
   omega
  ·rw[if_neg hm,if_neg hm]
   rfl
theorem feed_at {s:Vc.Sp} {p:List Int} (hp:p≠[]):∀ (ids:List Int) (st:St),st.told.map (·.f0)=castL (posL p st.xs)->(feedS s p st ids).told.map (·.f0)=castL (posL p (feedS s p st ids).xs)
 | [],st,h=>h
 | id::l,st,h=>by
  refine feed_at (s:=s) hp l (stp s p st id) ?_
  have h2:=hits_at (xs:=st.xs) hp (nextL p st) st.T (itemsOf s id) (itemsOf s id).length (Nat.le_refl _)
  rw[List.take_length]at h2
  show (st.told++_).map _=castL (posL p (st.xs++itemsOf s id))
  rw[h2,List.map_append,h]
theorem firstF_mem (L:List (Int × Int)) (a:Int):firstF L a=(0,0)\/firstF L a∈L:=by
 unfold firstF
 cases h:L.reverse.find? (fun x=>decide (x.2≤a)) with
 | none=>exact .inl rfl
 | some x=>exact .inr (List.mem_reverse.1 (List.mem_of_find?_eq_some h))
theorem feed_le {s:Vc.Sp} {p:List Int}:∀ (ids:List Int) (st:St),(∀ m∈st.told,m.f1≤m.f2)->(∀ x∈st.L,x.1<(st.T:Int))->∀ m∈(feedS s p st ids).told,m.f1≤m.f2
 | [],st,h1,h2=>h1
 | id::l,st,h1,h2=>by
  have hn:∀ x∈nextL p st,x.1≤(st.T:Int):=fun x hx=>by
   unfold nextL at hx
   rcases List.mem_append.1 hx with hx|hx
   ·have:=h2 x (List.mem_of_mem_drop hx);omega
   ·rw[List.mem_singleton.1 hx];exact Int.le_refl _
  refine feed_le l (stp s p st id) (fun m hm=>?_) (fun x hx=>by
   have:=hn x hx
   show x.1<((st.T+1:Nat):Int)
   omega)
  rcases List.mem_append.1 hm with hm|hm
  ·exact h1 m hm
  ·obtain⟨j,_,hj⟩:=List.mem_flatMap.1 hm
   unfold hitF at hj
   split at hj
   ·rw[List.mem_singleton.1 hj]
    show (firstF (nextL p st) (atF p st.xs j)).1≤(st.T:Int)
    rcases firstF_mem (nextL p st) (atF p st.xs j) with e|e
    ·rw[e];show (0:Int)≤_;omega
    ·exact hn _ e
   ·cases hj
theorem feed_xs (s:Vc.Sp) (p:List Int):∀ (ids:List Int) (st:St),(feedS s p st ids).xs=st.xs++itL s ids
 | [],st=>by simp[feedS,itL]
 | id::l,st=>by
  have:=feed_xs s p l (stp s p st id)
  show (feedS s p (stp s p st id) l).xs=_
  rw[this]
  show (st.xs++itemsOf s id)++itL s l=st.xs++itL s (id::l)
  rw[List.append_assoc]
  rfl
def cntF (p xs:List Int) (a:Nat):Nat:=((List.range a).filter (fun a=>decide ((xs.drop a).take p.length=p))).length
theorem cntF_next (p xs:List Int) (a:Nat):cntF p xs (a+1)=cntF p xs a+if (xs.drop a).take p.length=p then 1 else 0:=by
 unfold cntF
 rw[List.range_succ,List.filter_append,List.length_append,List.filter_cons,List.filter_nil]
 by_cases h:(xs.drop a).take p.length=p
 ·rw[if_pos h,if_pos (Z12)];rfl
 ·rw[if_neg h,if_neg (Z12)];rfl
theorem cntF_at {p xs:List Int} {N:Nat} {a:Nat} (ha:a<N) (h:(xs.drop a).take p.length=p):((List.range N).filter (fun a=>decide ((xs.drop a).take p.length=p)))[cntF p xs a]?=some a:=by
 obtain⟨k,rfl⟩:∃ k,N=(a+1)+k:=⟨N-(a+1),Z1⟩
 unfold cntF
 rw[List.range_add,List.filter_append,List.range_succ,List.filter_append,List.append_assoc,List.getElem?_append_right (Nat.le_refl _),Nat.sub_self]
 rw[List.filter_cons,List.filter_nil,if_pos (Z12)]
 rfl
theorem bytes_map (s:ByteArray):∀ (d i:Nat),s.size-i=d->i≤s.size->Mk.parseF [] s d i=((List.range s.size).drop i).map (fun j:Nat=>bt s (j:Int))
 | 0,i,h,hi=>by
  rw[List.drop_eq_nil_of_le (Z6)]
  rfl
 | d+1,i,h,hi=>by
  rw[Mk.parseF_byte (Z1) (atP_none _),bytes_map s d (i+1) (Z1) (Z1),List.drop_eq_getElem_cons (show i<(List.range s.size).length from Z6)]
  simp
theorem parse_bytes (s:ByteArray):Mk.parseP [] s=(List.range s.size).map (fun j:Nat=>bt s (j:Int)):=by
 unfold Mk.parseP
 rw[bytes_map s s.size 0 (Z1) (Z1),List.drop_zero]
theorem bt_byte {s:ByteArray} {i:Nat} (h:i<s.size):bt s (i:Int)=((s.data[i]'h).toNat:Int):=by
 unfold bt
 simp only[Int.toNat_natCast]
 simp[ByteArray.get!,h]
 rfl
theorem parse_inj {a b:ByteArray} (h:Mk.parseP [] a=Mk.parseP [] b):a=b:=by
 rw[parse_bytes,parse_bytes]at h
 have hl:a.size=b.size:=by have:=congrArg List.length h;simpa using this
 apply ByteArray.ext
 apply Array.ext
 ·exact hl
 ·intro i h1 h2
  have hi:=congrArg (fun l=>l[i]?) h
  simp only[List.getElem?_map]at hi
  rw[List.getElem?_range (show i<a.size from h1),List.getElem?_range (show i<b.size from h2)]at hi
  simp only[Option.map_some]at hi
  injection hi with hi
  rw[bt_byte h1,bt_byte h2]at hi
  exact UInt8.toNat_inj.1 (Z1)
theorem parse_ext {s:ByteArray} {a m:Nat} (h:a+m≤s.size):Mk.parseP [] (s.extract a (a+m))=((Mk.parseP [] s).drop a).take m:=by
 have hs:(s.extract a (a+m)).size=m:=Z100
 rw[parse_bytes,parse_bytes,hs]
 apply List.ext_getElem?
 intro j
 rw[List.getElem?_take,List.getElem?_drop,List.getElem?_map,List.getElem?_map]
 by_cases hj:j<m
 ·rw[if_pos hj,List.getElem?_range hj,List.getElem?_range (Z1)]
  simp only[Option.map_some]
  rw[bt_byte (Z1),bt_byte (Z1)]
  congr 2
  simp[ByteArray.data_extract]
 ·rw[if_neg hj,List.getElem?_eq_none (Z6)]
  rfl
theorem ext_iff {s t:ByteArray} {a:Nat} (h:a+t.size≤s.size):s.extract a (a+t.size)=t↔((Mk.parseP [] s).drop a).take (Mk.parseP [] t).length=Mk.parseP [] t:=by
 have hl:(Mk.parseP [] t).length=t.size:=by rw[parse_bytes];simp
 rw[hl,←parse_ext h]
 exact⟨fun e=>by rw[e],fun e=>parse_inj e⟩
end Go.Proofs.YtkffhgiiejbnaaaGreat.Sk
namespace Go.Proofs.YtkffhgiiejbnaaaGreat.Rt
open Go.RowKit YtkffhgiiejbnaaaGreatW.PrintWords YtkffhgiiejbnaaaGreatW.PrintLast YtkffhgiiejbnaaaGreatW.PrintMore Rf Aid Mp Hp Tk Vc Bn En Sk
theorem slice_str (s:ByteArray) (a b:Nat) (h:a≤b) (hb:b≤s.size) (w:World):(Instr.slice 9 (.string s) (some (.int .i64 (a:Int))) (some (.int .i64 (b:Int))) none).run Tryz.prog w=.ok (.string (s.extract a b)) w:=by
 rw[run_slice_string_if _ _ _ _ _ _ _ Tryz.underlying9,if_pos (Z1),if_pos (Z1)]
 congr 3
theorem text_empty (v:Nat) (w:World):Calls Tryz.prog 26 #[.pointer (some ⟨v,0,none⟩),.string ⟨#[]⟩] w fun e w'=>e=.returned (.tuple #[.pointer none,.int .i64 1])/\Below w.heap.size w w':=by
 have HBY:=As.mk (bytes_any ⟨#[]⟩ w (Z32))
 rw[show Mk.parseP [] ⟨#[]⟩=[] from rfl]at HBY
 go_enter Tryz.func26,Tryz.ntmps26
 go_wp2_with (first
  | (go_at_call 28;refine HBY.out.mono ?_;rintro e w1 ⟨sv,rfl,ho,hb⟩;have HB1:=As.mk hb;obtain⟨A,c,rfl⟩:=Kd.R_slice ho;clear hb ho)
  | (go_at_call 37;refine(new_empty v A c _).mono ?_;rintro e w2 ⟨rfl,hb⟩;have HB2:=As.mk (bt_ HB1.out hb);clear hb))
 go_ret2
 exact⟨rfl,HB2.out⟩
theorem feed_text {w:World} {d v:Nat} {Ap:Option Addr} {cp g:Nat} {lv:Value} {t u:ByteArray} {sp:Vc.Sp} (hok:VOk sp) (hg:Mk.GoodS sp.X) (ht0:0<t.size) (ht:t.size≤64) (hu:u.size≤100) (hs:SkAt w d v Ap cp g lv (Mk.parseP [] t) [] 0 []) (hv:VocAt w v sp) (hvd:v<d) {A:Option Addr} {n c:Nat} (hr:Ro w (.slice A n c) (tokL sp (Mk.parseP [] u))) :
  Calls Tryz.prog 27 #[.pointer (some ⟨d,0,none⟩),.slice A n c] w fun e w'=>∃ (q:Int) (x:Value) (M:List S65),e=.returned (.tuple #[x,.int .i64 q,.int .i64 0])/\Kd.R k65 65 w' w.heap.size (fun _=>True) x M/\M.map (·.f0)=castL (posL (Mk.parseP [] t) (Mk.parseP [] u))/\(∀ m∈M,m.f1≤m.f2)/\Sk.Fd d v w w':=by
 have hl2:=parse_len [] u
 have hl1:=parse_len [] t
 have htk:=tok_len sp (Mk.parseP [] u)
 have hb:=tok_back hok hg (bytes_right sp u)
 rw[itF_bad]at hb
 have hne:Mk.parseP [] t≠[]:=by
  rw[parse_bytes]
  intro e
  have:=congrArg List.length e
  rw[List.length_map,List.length_range,List.length_nil]at this
  omega
 obtain⟨e1,_,_⟩:=hr.rd
 subst e1
 cases hbad:badF sp (tokL sp (Mk.parseP [] u)) with
 | some i =>
  rw[hbad]at hb
  injection hb with _ hb
  injection hb with _ hb
  cases hb
 | none =>
  rw[hbad]at hb
  injection hb with hb _
  have h:=feed_sk (st:=⟨[],0,[],[]⟩) (N:=0) hs hv hvd hne (Z1) ⟨by simp,by simp,by simp,by simp,fun x hx=>Z125⟩ (Z1) rfl (A:=A) (c:=c) (ids:=tokL sp (Mk.parseP [] u)) (fun W f=>(Kd.R_reads' (f.rw (Rw.of hr))).2.2) (Z1)
  unfold badF at hbad
  rw[hbad]at h
  refine h.mono ?_
  rintro e w' ⟨x,lv',rfl,ho,_,hf,_⟩
  refine⟨_,x,_,rfl,ho,?_,feed_le _ _ (fun m hm=>by cases hm) (fun x hx=>Z125),hf⟩
  have h1:=feed_at (s:=sp) hne (tokL sp (Mk.parseP [] u)) ⟨[],0,[],[]⟩ (by
   have hp0:=List.length_pos_iff.2 hne
   unfold posL castL
   rw[show ([]:List Int).length+1-(Mk.parseP [] t).length=0 from Z6]
   rfl)
  rw[h1,feed_xs,show itL sp (tokL sp (Mk.parseP [] u))=Mk.parseP [] u by simpa using hb]
  rfl
theorem seekTexts_any {A0 A1 A2 A3:Option Addr} {c0 c1 c2 c3:Nat} {L:List Int} {C:List S165} {J:List S108} {X:List S93} {w:World} (h:CaseAt w A0 A1 A2 A3 c0 c1 c2 c3 L C J X) (t u:ByteArray) :
  Calls Tryz.prog 6 #[caseV A0 A1 A2 A3 c0 c1 c2 c3 L C J X,.string t,.string u] w fun e w'=>e=.returned (.bool true)/\Below w.heap.size w w':=by
 obtain⟨g,hg01,hG⟩:=great_any h
 have HG:=As.mk hG
 have HC:=As.mk h
 clear hG h
 have HB0:=As.mk (below_alloc (Below.refl w.heap.size w) (.cells #[.slice A0 L.length c0,.slice A1 C.length c1,.slice A2 J.length c2,.slice A3 X.length c3] 27))
 have HK0:=As.mk (Go.MapKept.heap_alloc w (.cells #[.slice A0 L.length c0,.slice A1 C.length c1,.slice A2 J.length c2,.slice A3 X.length c3] 27)).1
 unfold caseV at HG ⊢
 have hearly:(g=1\/(g=0/\64<t.size)\/(g=0/\t.size≤64/\100<u.size))\/(g=0/\t.size≤64/\u.size≤100):=Z1
 rcases hearly with he|⟨rfl,hn,hnu⟩
 ·have go:∀ (he:(g=1)\/(g=0/\(64:Int)<(t.size:Int))\/(g=0/\¬ (64:Int)<(t.size:Int)/\(100:Int)<(u.size:Int))),Calls Tryz.prog 6 #[.agg #[.slice A0 L.length c0,.slice A1 C.length c1,.slice A2 J.length c2,.slice A3 X.length c3],.string t,.string u] w fun e w'=>e=.returned (.bool true)/\Below w.heap.size w w':=by
   clear he
   intro he
   rcases he with rfl|⟨rfl,h1⟩|⟨rfl,h1,h2⟩
   all_goals
    go_enter Tryz.func6,Tryz.ntmps6
    go_wp2_with (first
     | (go_at_call 13;refine(HG.out _ HB0.out).mono ?_;rintro e w1 ⟨rfl,hb⟩;have HB1:=As.mk (bt_ HB0.out hb);have HK1:=As.mk ((hb.block _ (blk_lt HK0.out)).trans HK0.out);clear hb)
     | (go_at_call 25;refine(Sk.awake_any _).mono ?_;rintro e w2 ⟨rfl,hb⟩;have HB2:=As.mk (bt_ HB1.out hb);clear hb))
    go_ret
    exact⟨rfl,HB2.out⟩
  exact go (Z1)
 ·have HO:=As.mk (fun(W:World) (hb:Below w.heap.size w W)=>of_any (HC.out.below hb))
  have HOK:=As.mk (some_ok L C J X)
  unfold caseV at HO
  generalize someS L C J X=sp at HO HOK
  unfold vV at HO
  clear hg01
  have hl1:¬ (64:Int)<(t.size:Int):=Z1
  have hl2:¬ (100:Int)<(u.size:Int):=Z1
  have HL:=As.mk (And.intro hn hnu)
  clear hn hnu
  by_cases ht0:t.size=0
  ·obtain rfl:t=⟨#[]⟩:=by
    apply ByteArray.ext
    exact Array.eq_empty_of_size_eq_zero ht0
   go_enter Tryz.func6,Tryz.ntmps6
   go_wp2_with (first
    | (go_at_call 13;refine(HG.out _ HB0.out).mono ?_;rintro e w1 ⟨rfl,hb⟩;have HB1:=As.mk (bt_ HB0.out hb);have HK1:=As.mk ((hb.block _ (blk_lt HK0.out)).trans HK0.out);clear hb)
    | (go_at_call 25;refine(Sk.awake_any _).mono ?_;rintro e w2 ⟨rfl,hb⟩;have HB2:=As.mk (bt_ HB1.out hb);have HK2:=(hb.block _ (blk_lt HK1.out)).trans HK1.out;have d0:=cell_of (i:=0) HK2 rfl;have d1:=cell_of (i:=1) HK2 rfl;have d2:=cell_of (i:=2) HK2 rfl;have d3:=cell_of (i:=3) HK2 rfl;clear hb HK2)
    | (go_at_call 15;refine(HO.out _ HB2.out).mono ?_;rintro e w3 ⟨v,B0,D0,B3,B4,B5,e0,f0,e3,e4,e5,rfl,hv,href,hle,hb⟩;have HB3:=As.mk (bt_ HB2.out hb);have hba:=below_alloc (Below.refl w3.heap.size w3) (.cells #[.slice B0 (bL (tabOf sp).1).length e0,.slice D0 (mL (tabOf sp).1).length f0,.slice B4 sp.C.length e4,.slice B5 sp.J.length e5,.slice B3 sp.X.length e3] 38);have HB4:=As.mk (below_alloc HB3.out (.cells #[.slice B0 (bL (tabOf sp).1).length e0,.slice D0 (mL (tabOf sp).1).length f0,.slice B4 sp.C.length e4,.slice B5 sp.J.length e5,.slice B3 sp.X.length e3] 38));have HV4:=As.mk (hv.below hba).at_;have HGD:=As.mk (VocAt.goodX hv.at_);have HLE:=As.mk (Nat.le_trans HB2.out.size hle);have HF4:=As.mk (href.below hba);have HM4:=As.mk (Go.MapKept.heap_alloc w3 (.cells #[.slice B0 (bL (tabOf sp).1).length e0,.slice D0 (mL (tabOf sp).1).length f0,.slice B4 sp.C.length e4,.slice B5 sp.J.length e5,.slice B3 sp.X.length e3] 38)).1;clear hv href hle hb hba d0 d1 d2 d3 HB3)
    | (go_at_call 26;refine(text_empty v _).mono ?_;rintro e w5 ⟨rfl,hb⟩;have HB5:=As.mk (bt_ HB4.out hb);clear hb))
   go_ret
   exact⟨rfl,HB5.out⟩
  ·have htn:¬ t=(⟨#[]⟩:ByteArray):=by
    rintro rfl
    exact ht0 rfl
   have htd:decide (t=(⟨#[]⟩:ByteArray))=false:=decide_eq_false htn
   have HT0:=As.mk (show 0<t.size from Z1)
   have htl:=toList_some HT0.out
   have hpl:(Mk.parseP [] t).length=t.size:=by rw[parse_bytes];simp
   have hBl:(Mk.parseP [] u).length=u.size:=by rw[parse_bytes];simp
   have HPL:=As.mk (And.intro hpl hBl)
   have HEX:=As.mk (fun(a:Nat) (h:a+t.size≤u.size)=>Sk.ext_iff h)
   have HBY:=As.mk (fun(W:World)=>En.bytes_any u W (Z135))
   have HFT:=As.mk (fun(W:World) (d v:Nat) (Ap:Option Addr) (cp g:Nat) (lv:Value) (hg:Mk.GoodS sp.X) (hs:SkAt W d v Ap cp g lv (Mk.parseP [] t) [] 0 []) (hv:VocAt W v sp) (hvd:v<d) (A:Option Addr) (n c:Nat) (hr:Ro W (.slice A n c) (tokL sp (Mk.parseP [] u)))=>feed_text HOK.out hg HT0.out HL.out.1 HL.out.2 hs hv hvd hr)
   have HTX:=As.mk (fun(W:World) (v:Nat) (hv:VocAt W v sp)=>Sk.text_any hv t HT0.out HL.out.1)
   have HEN:=As.mk (fun(W:World) {v:Nat} {A0 B0 A3 A4 A5:Option Addr} {c0 d0 c3 c4 c5:Nat} (hf:RefAt W v A0 B0 A3 A4 A5 c0 d0 c3 c4 c5 sp) (A:Option Addr) (n c:Nat) (ha:Ro W (.slice A n c) (Mk.parseP [] u))=>(by
    obtain⟨e1,h1,h2⟩:=ha.rd
    subst e1
    exact venc_any hf HOK.out A c (Mk.parseP [] u) h2 h1 (Z135) (bytes_right sp u):Calls Tryz.prog 21 #[vV A0 B0 A3 A4 A5 c0 d0 c3 c4 c5 (tabOf sp).1 sp,.slice A n c] W fun e w'=>∃ v0:Value,e=.returned v0/\Kd.R (Kd.int .i64) 3 w' W.heap.size (fun _=>True) v0 (tokL sp (Mk.parseP [] u))/\Below W.heap.size W w'))
   unfold vV at HEN
   clear hpl hBl ht0
   generalize Mk.parseP [] t=P at *
   generalize Mk.parseP [] u=B at *
   generalize tokL sp B=TK at *
   go_enter Tryz.func6,Tryz.ntmps6
   go_wp2_with (first
    | (go_at_call 13;refine(HG.out _ HB0.out).mono ?_;rintro e w1 ⟨rfl,hb⟩;have HB1:=As.mk (bt_ HB0.out hb);have HK1:=As.mk ((hb.block _ (blk_lt HK0.out)).trans HK0.out);clear hb)
    | (go_at_call 25;refine(Sk.awake_any _).mono ?_;rintro e w2 ⟨rfl,hb⟩;have HB2:=As.mk (bt_ HB1.out hb);have HK2:=(hb.block _ (blk_lt HK1.out)).trans HK1.out;have d0:=cell_of (i:=0) HK2 rfl;have d1:=cell_of (i:=1) HK2 rfl;have d2:=cell_of (i:=2) HK2 rfl;have d3:=cell_of (i:=3) HK2 rfl;clear hb HK2)
    | (go_at_call 15;refine(HO.out _ HB2.out).mono ?_;rintro e w3 ⟨v,B0,D0,B3,B4,B5,e0,f0,e3,e4,e5,rfl,hv,href,hle,hb⟩;have HB3:=As.mk (bt_ HB2.out hb);have hba:=below_alloc (Below.refl w3.heap.size w3) (.cells #[.slice B0 (bL (tabOf sp).1).length e0,.slice D0 (mL (tabOf sp).1).length f0,.slice B4 sp.C.length e4,.slice B5 sp.J.length e5,.slice B3 sp.X.length e3] 38);have HB4:=As.mk (below_alloc HB3.out (.cells #[.slice B0 (bL (tabOf sp).1).length e0,.slice D0 (mL (tabOf sp).1).length f0,.slice B4 sp.C.length e4,.slice B5 sp.J.length e5,.slice B3 sp.X.length e3] 38));have HV4:=As.mk (hv.below hba).at_;have HGD:=As.mk (VocAt.goodX hv.at_);have HLE:=As.mk (Nat.le_trans HB2.out.size hle);have HF4:=As.mk (href.below hba);have HM4:=As.mk (Go.MapKept.heap_alloc w3 (.cells #[.slice B0 (bL (tabOf sp).1).length e0,.slice D0 (mL (tabOf sp).1).length f0,.slice B4 sp.C.length e4,.slice B5 sp.J.length e5,.slice B3 sp.X.length e3] 38)).1;clear hv href hle hb hba d0 d1 d2 d3 HB3)
    | (go_at_call 26;refine(HTX.out _ v HV4.out).mono ?_;rintro e w5 ⟨d,Ap,cp,gg,rfl,hs,hd1,hd2,hb⟩;have HS5:=As.mk hs;have HB5:=As.mk (bt_ HB4.out hb);have HV5:=As.mk (HV4.out.below hb);have HF5:=As.mk (HF4.out.below hb);have HM5:=As.mk ((hb.block _ (blk_lt HM4.out)).trans HM4.out);have HVD:=As.mk (And.intro (Nat.lt_of_lt_of_le HV4.out.lt hd1) hd2);clear hs hd1 hd2 hb HV4 HF4 HM4))
   refine start_ (n:=13) (S:=fun w'=>w'.heap[w3.heap.size]?=some (.cells #[.slice B0 (bL (tabOf sp).1).length e0,.slice D0 (mL (tabOf sp).1).length f0,.slice B4 sp.C.length e4,.slice B5 sp.J.length e5,.slice B3 sp.X.length e3] 38 (0,0))) (ds:=[]) #[false,false,false,false,false,false,false,false,false,false,false,false,false] (Z16) rfl rfl (((below_drew1 (Below.refl w5.heap.size w5)).block _ (blk_lt HM5.out)).trans HM5.out) (fun hHeld=>?_)
   have HD6:=As.mk (below_drew1 (Below.refl w5.heap.size w5));clear hHeld;generalize w5.drew=w6 at HD6 ⊢;have hHeld:=((HD6.out.block _ (blk_lt HM5.out)).trans HM5.out)
   refine pI 0 (some 56) (bs 13 1) ?_
   refine pI 2 (some 58) (bs 13 5) ?_
   refine tI 1 (some 57) (bs 13 7) rfl (by intro w' hS';have s0:=hS';have m0:=cell_of (i:=0) hS' rfl;have m1:=cell_of (i:=1) hS' rfl;have m2:=cell_of (i:=2) hS' rfl;have m3:=cell_of (i:=3) hS' rfl;have m4:=cell_of (i:=4) hS' rfl;go_simp;with_reducible rfl) hHeld ?_
   refine one_ (i:=3) (N:=some 59) (bs 13 15) rfl rfl (Z16) (Z32) (fun K hK=>?_)
   refine goes_ Tryz.func28 (Z16) rfl #[.string u] (by rfl) rfl rfl (Z110) ?_
   refine(HBY.out _).mono ?_
   rintro e w7 ⟨v0,rfl,ho,hb⟩
   have HD7:=As.mk (bt_ HD6.out hb)
   have HY7:=As.mk (Ro.of ho)
   clear ho hb
   obtain⟨Ay,cy,rfl⟩:=HY7.out.form
   refine⟨_,rfl,?_⟩
   refine hK.out _ _ ((HD7.out.block _ (blk_lt HM5.out)).trans HM5.out) (fun _=>?_)
   clear hK K
   refine nI ?_
   refine one_ (i:=4) (N:=some 60) (bs 13 31) rfl rfl (Z16) (Z32) (fun K hK=>?_)
   refine goes_ Tryz.func21 (Z16) rfl #[.agg #[.slice B0 (bL (tabOf sp).1).length e0,.slice D0 (mL (tabOf sp).1).length f0,.slice B4 sp.C.length e4,.slice B5 sp.J.length e5,.slice B3 sp.X.length e3],.slice Ay B.length cy] (by rfl) rfl rfl (Z110) ?_
   refine(HEN.out _ (HF5.out.below HD7.out) Ay B.length cy HY7.out).mono ?_
   rintro e w8 ⟨v0,rfl,ho,hb⟩
   have HD8:=As.mk (bt_ HD7.out hb)
   have HE8:=As.mk (Ro.of ho)
   clear ho hb
   obtain⟨Ae,ce,rfl⟩:=HE8.out.form
   refine⟨_,rfl,?_⟩
   refine hK.out _ _ ((HD8.out.block _ (blk_lt HM5.out)).trans HM5.out) (fun _=>?_)
   clear hK K
   refine nI ?_
   refine one_ (i:=5) (N:=some 61) (bs 13 63) rfl rfl (Z16) (Z32) (fun K hK=>?_)
   refine goes_ Tryz.func27 (Z16) rfl #[.pointer (some ⟨d,0,none⟩),.slice Ae TK.length ce] (by rfl) rfl rfl (Z110) ?_
   refine(HFT.out _ d v Ap cp gg _ HGD.out (HS5.out.below HD8.out) (HV5.out.below HD8.out) HVD.out.1 Ae TK.length ce HE8.out).mono ?_
   rintro e w9 ⟨q,x,M,rfl,ho,hm1,hm2,hf⟩
   have HU9:=As.mk ho
   have HMF:=As.mk (And.intro hm1 hm2)
   have HFD:=As.mk hf
   clear ho hm1 hm2 hf
   obtain⟨A9,c9,rfl⟩:=Kd.R_slice HU9.out
   have HMX:=As.mk (show M.length≤1000000 by have h1:=congrArg List.length HMF.out.1;unfold castL posL at h1;rw[List.length_map,List.length_map]at h1;have h2:=List.length_filter_le (fun a=>decide ((B.drop a).take P.length=P)) (List.range (B.length+1-P.length));rw[List.length_range]at h2;have h3:=HPL.out;have h4:=HL.out;omega)
   refine⟨_,rfl,?_⟩
   refine hK.out _ _ (HFD.out.blk ((HD8.out.block _ (blk_lt HM5.out)).trans HM5.out) (Z32) (Z32) (Z32)) (fun _=>?_)
   clear hK K
   refine nI ?_
   refine pI 6 (some 55) (bs 13 127) ?_
   refine pI 7 (some 62) (bs 13 255) ?_
   refine pI 8 (some 63) (bs 13 511) ?_
   refine pI 9 (some 64) (bs 13 1023) ?_
   refine pI 10 (some 11) (bs 13 2047) ?_
   refine pI 11 (some 12) (bs 13 4095) ?_
   refine pI 12 (some 13) (bs 13 8191) ?_
   refine done_ (Z16) ?_
   have HB9:=As.mk (HB5.out.trans (Below.trans (HD8.out.mono HB5.out.size) (HFD.out.high (by have h1:=HD8.out.size;have h2:=HVD.out.2;omega) HLE.out HVD.out.1)))
   clear HS5 HV5 HF5 HM5 HD8 HFD HB5 HFT HEN HBY HTX HG HO HC
   go_wp2_with fail
   obtain⟨N,hN⟩:∃ N,N=u.size+1-t.size:=⟨_,rfl⟩
   have HN:=As.mk hN
   clear hN
   go_loopg [14,15] (u.size+1) (fun k v14 v15 W=>∃ (a:Nat),v15=.int .i64 (a:Int)/\v14=.int .i64 ((cntF P B a:Nat):Int)/\a≤N/\As (u.size+1-a≤k)/\As (Below w9.heap.size w9 W))
   case atStart=>exact⟨0,rfl,rfl,Nat.zero_le _,⟨Z1⟩,⟨Below.refl _ _⟩⟩
   case round =>
    obtain⟨a,rfl,rfl,haN,HK,HW⟩:=hrel
    rename World=>V
    obtain⟨am,ham⟩:∃ am,am=a+t.size:=⟨_,rfl⟩
    have hwm:wrap64 ((a:Int)+(t.size:Int))=(am:Int):=by have h1:=HN.out;have h2:=HL.out;exact(w64 (Z1) (Z1)).trans (Z1)
    have HAM:=As.mk ham
    have hle:am≤u.size↔a<N:=by have h1:=HN.out;have h2:=HT0.out;omega
    clear ham
    by_cases hlt:am≤u.size
    ·have hltI:(am:Int)≤(u.size:Int):=by omega
     obtain⟨k1,rfl⟩:∃ k1,gk=k1+1:=⟨gk-1,by have:=HK.out;have:=HAM.out;omega⟩
     have hsl:=slice_str u a am (by have:=HAM.out;omega) hlt
     have haN2:=hle.1 hlt
     have hwa:wrap64 ((a:Int)+1)=(a:Int)+1:=w64 (Z1) (by have h1:=HN.out;have h2:=HL.out;omega)
     have hex:=HEX.out a (by have:=HAM.out;omega)
     rw[←HAM.out]at hex
     have hnx:=cntF_next P B a
     clear hle
     by_cases hq:u.extract a am=t
     ·have hqb:((u.extract a am).toList==t.toList)=true:=by rw[hq];simp
      have hP:=hex.1 hq
      rw[if_pos hP]at hnx
      have hM1:=congrArg (fun l=>l[cntF P B a]?) HMF.out.1
      have hpos:=cntF_at (p:=P) (xs:=B) (N:=B.length+1-P.length) (a:=a) (by rw[HPL.out.1,HPL.out.2,←HN.out];exact haN2) hP
      have hpos2:(castL (posL P B))[cntF P B a]?=some (a:Int):=by
       unfold castL posL
       rw[List.getElem?_map,hpos]
       rfl
      simp only[hpos2,List.getElem?_map]at hM1
      obtain⟨x,hx,hxa⟩:=Option.map_eq_some_iff.1 hM1
      have hxl:=HMF.out.2 x (List.mem_of_getElem? hx)
      obtain⟨f0',f1',f2',f3'⟩:=x
      dsimp only at hxa hxl
      subst hxa
      have hkl:=(List.getElem?_eq_some_iff.1 hx).1
      obtain⟨g9,hA9,_⟩:=mt_cells HU9.out hx
      subst hA9
      have HX:=As.mk hx
      have hd1:decide ((M.length:Int)≤((cntF P B a:Nat):Int))=false:=decide_eq_false (Z1)
      have hd1n:decide (M.length≤cntF P B a)=false:=decide_eq_false (Z1)
      have hd2:decide (f2'<f1')=false:=decide_eq_false (Z1)
      have hkI:((cntF P B a:Nat):Int)<(M.length:Int):=Z1
      have hwk:wrap64 (((cntF P B a:Nat):Int)+1)=((cntF P B a:Nat):Int)+1:=w64 (Z1) (by have h1:=HMX.out;omega)
      have HNX:=As.mk hnx
      clear hq hex hP hM1 hpos hpos2 hx hxl hnx hkl haN2 hlt
      generalize cntF P B a=kk at *
      go_wp2_with fail
      refine start_ (n:=26) (S:=fun w'=>Below V.heap.size V w') (ds:=[]) #[false,false,false,false,false,false,false,false,false,false,false,false,false,false,false,false,false,false,false,false,false,false,false,false,false,false] (Z16) rfl rfl (below_drew1 (Below.refl _ _)) (fun hHeld=>?_)
      have HD11:=As.mk (below_drew1 (Below.refl V.heap.size V));clear hHeld;generalize V.drew=w11 at HD11 ⊢;have hHeld:=HD11.out
      refine pI 0 (some 83) (bs 26 1) ?_
      refine pI 1 (some 84) (bs 26 3) ?_
      refine pI 2 (some 85) (bs 26 7) ?_
      refine pI 3 (some 86) (bs 26 15) ?_
      refine pI 4 (some 87) (bs 26 31) ?_
      refine pI 5 (some 88) (bs 26 63) ?_
      refine pI 6 (some 89) (bs 26 127) ?_
      refine pI 7 (some 90) (bs 26 255) ?_
      refine pI 8 (some 91) (bs 26 511) ?_
      refine pI 10 (some 93) (bs 26 1535) ?_
      refine tI 9 (some 92) (bs 26 2047) rfl (Z176) hHeld ?_
      refine pI 11 (some 94) (bs 26 4095) ?_
      refine pI 12 (some 95) (bs 26 8191) ?_
      refine pI 13 (some 96) (bs 26 16383) ?_
      refine pI 14 (some 97) (bs 26 32767) ?_
      refine pI 15 (some 98) (bs 26 65535) ?_
      refine pI 16 (some 99) (bs 26 131071) ?_
      refine pI 17 (some 100) (bs 26 262143) ?_
      refine pI 19 (some 102) (bs 26 786431) ?_
      refine pI 20 (some 103) (bs 26 1835007) ?_
      refine pI 21 (some 104) (bs 26 3932159) ?_
      refine pI 22 (some 105) (bs 26 8126463) ?_
      refine tI 18 (some 101) (bs 26 8388607) rfl (Z176) hHeld ?_
      refine tI 23 (some 106) (bs 26 16777215) rfl (Z176) hHeld ?_
      refine pI 24 (some 107) (bs 26 33554431) ?_
      refine pI 25 (some 108) (bs 26 67108863) ?_
      refine done_ (Z16) ?_
      go_wp2
      go_roundg k1
      case measure=>omega
      case rel=>exact⟨a+1,Z73,by rw[HNX.out];go_num,by have h1:=HAM.out;have h2:=HN.out;have h3:=HT0.out;omega,⟨Z71⟩,⟨bt_ HW.out HD11.out⟩⟩
     ·have hqb:((u.extract a am).toList==t.toList)=false:=by
       rw[beq_eq_false_iff_ne]
       intro e
       rw[ByteArray.toList_eq,ByteArray.toList_eq]at e
       exact hq (ByteArray.ext (Array.toList_inj.1 e))
      have hP:=fun e=>hq (hex.2 e)
      rw[if_neg hP,Nat.add_zero]at hnx
      have HNX:=As.mk hnx
      clear hq hex hP hnx
      go_wp2
      go_roundg k1
      case measure=>omega
      case rel=>exact⟨a+1,Z73,by rw[HNX.out];rfl,Z1,⟨Z71⟩,HW⟩
    ·have hltI:¬ (am:Int)≤(u.size:Int):=by omega
     obtain rfl:a=N:=Z1
     have hc:cntF P B a=M.length:=by
      have h1:=congrArg List.length HMF.out.1
      unfold castL posL at h1
      rw[List.length_map,List.length_map]at h1
      have e:B.length+1-P.length=a:=by rw[HPL.out.1,HPL.out.2];exact HN.out.symm
      rw[e]at h1
      exact h1.symm
     have hcI:(((cntF P B a:Nat):Int)==(M.length:Int))=true:=by rw[hc];simp
     clear hle hlt
     go_wp2
     go_ret
     exact⟨rfl,bt_ HB9.out HW.out⟩
end Go.Proofs.YtkffhgiiejbnaaaGreat.Rt
