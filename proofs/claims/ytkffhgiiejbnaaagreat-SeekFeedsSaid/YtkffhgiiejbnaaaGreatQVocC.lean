import Derived.Laws.LoneSync
import Derived.Test.YtkffhgiiejbnaaaGreatQVocA
import Derived.Test.YtkffhgiiejbnaaaGreatQRendRef
import Derived.Test.YtkffhgiiejbnaaaGreatQ01
import Derived.Test.YtkffhgiiejbnaaaGreatQ02
set_option maxRecDepth 100000
set_option maxHeartbeats 2000000
set_option linter.unusedVariables false
set_option linter.unusedSimpArgs false
namespace Go.Proofs.YtkffhgiiejbnaaaGreat.Vc
open Go.Shelf Go.RowKit YtkffhgiiejbnaaaGreatW.PrintWords YtkffhgiiejbnaaaGreatW.PrintLast YtkffhgiiejbnaaaGreatW.PrintMore Rf Aid Mp Hp Go.Proofs.YtkffhgiiejbnaaaGreat.Fn Bn Tk
theorem VocAt.lt {w:World} {v:Nat} {s:Sp} (h:VocAt w v s):v<w.heap.size:=Z85
theorem VocAt.below {w w':World} {v:Nat} {s:Sp} (h:VocAt w v s) (hb:Below w.heap.size w w'):VocAt w' v s:=by
 obtain⟨⟨cs,hc⟩,⟨n,hn⟩,w0,pt,pb,pm,h1,h2,h3,h4,h5,h6,h7,h8⟩:=h
 exact⟨⟨cs,(hb.block _ (blk_lt hc)).trans hc⟩,⟨n,pw_cell_below hb hn⟩,w0,pt,pb,pm,h1,h2.trans (hb.mono h2.size),h3,h4,h5,pw_cell_below hb h6,pw_cell_below hb h7,pw_cell_below hb h8⟩
theorem VocAt.used {w:World} {v:Nat} {s:Sp} (h:VocAt w v s) (m:Int):VocAt (w.setCell ⟨v,13,none⟩ (.int .i64 m)) v s:=by
 obtain⟨⟨cs,hc⟩,⟨n,hn⟩,w0,pt,pb,pm,h1,h2,h3,h4,h5,h6,h7,h8⟩:=h
 exact⟨⟨_,blk_set hc 13 _⟩,⟨m,set_eq hn⟩,w0,pt,pb,pm,h1,h2.setCell (p:=⟨v,13,none⟩) h1 _,h3,h4,h5,by rw[set_ne _ _ _ _ _ (Z31)];exact h6,by rw[set_ne _ _ _ _ _ (Z31)];exact h7,by rw[set_ne _ _ _ _ _ (Z31)];exact h8⟩
theorem uses_any {w:World} {v:Nat} {s:Sp} (h:VocAt w v s):Calls Tryz.prog 72 #[.pointer (some ⟨v,13,none⟩),.int .i64 1] w fun e w'=>∃ m:Int,e=.returned (.int .i64 m)/\w'=w.setCell ⟨v,13,none⟩ (.int .i64 m):=by
 obtain⟨n,hn⟩:=h.uses
 obtain⟨cs,hc⟩:=h.blk
 have hz:=blk_frozen hc 13
 have hadd:=run_call_add (P:=Tryz.prog) Tryz.func103 (Z15) (Z15) (Z15) .i64 (Z15) (y:=1) (s:=wrap64 (n+1)) hn hz (by simp[go_sem,i64_w])
 clear hc h
 go_enter Tryz.func72,Tryz.ntmps72
 go_wp2
 go_ret
 exact⟨_,rfl,rfl⟩
theorem marks_any {w:World} {v:Nat} {s:Sp} (h:VocAt w v s):Calls Tryz.prog 67 #[.pointer (some ⟨v,0,none⟩)] w fun e w'=>∃ pm,e=.returned (.pointer (some ⟨pm,0,none⟩))/\Mk.SetAt w pm s.X/\w=w':=by
 obtain⟨_,_,w0,pt,pb,pm,h1,h2,h3,h4,h5,h6,h7,h8⟩:=h
 have H:=As.mk (h5.below h2)
 clear h5 h4 h3 h2 h1
 go_enter Tryz.func67,Tryz.ntmps67
 go_wp2
 go_ret
 exact⟨pm,rfl,H.out,rfl⟩
def bytesI (s:ByteArray):List Int:=(List.range s.size).map (fun i:Nat=>bt s (i:Int))
theorem bytesI_len (s:ByteArray):(bytesI s).length=s.size:=by simp[bytesI]
theorem bytes_run (s:ByteArray) (hs:s.size≤17592186044415):∀ (d k i:Nat),i≤s.size->s.size-i=d->d<k->mark_Bytes.l0 k s ((bytesI s).take i) (s.size:Int) (i:Int)=some (bytesI s)
 | 0,k,i,h0,h1,h2=>by
  obtain⟨k,rfl⟩:∃ m,k=m+1:=⟨k-1,Z1⟩
  simp only[mark_Bytes.l0]
  rw[if_neg (Z1),List.take_of_length_le (Z115)]
 | d+1,k,i,h0,h1,h2=>by
  obtain⟨k,rfl⟩:∃ m,k=m+1:=⟨k-1,Z1⟩
  simp only[mark_Bytes.l0]
  have hl:((bytesI s).take i).length=i:=by rw[List.length_take,bytesI_len];omega
  rw[if_pos (Z1),if_pos (Z1),if_pos (Z1),if_pos (by rw[hl];omega)]
  have hb:=bt_range s i
  have e1:((bytesI s).take i)++[wrap64 (bt s (i:Int))]=(bytesI s).take (i+1):=by
   rw[List.take_succ_eq_append_getElem (Z115),w64 (Z1) (Z1)]
   congr 2
   simp[bytesI]
  rw[e1,w64 (Z1) (Z1),show ((i:Int)+1)=((i+1:Nat):Int) from Z1]
  exact bytes_run s hs d k (i+1) (Z1) (Z1) (Z1)
theorem bytes_of (s:ByteArray) (hs:s.size≤17592186044415) (w:World):Calls Tryz.prog 28 #[.string s] w fun e w'=>∃ v0:Value,e=.returned v0/\Kd.R (Kd.int .i64) 3 w' w.heap.size (fun _=>True) v0 (bytesI s)/\Below w.heap.size w w' :=
 mark_Bytes.calls (s.size+1) s (bytesI s) w (bytes_run s hs s.size (s.size+1) 0 (Z1) (Z1) (Z1))
def hasId (s:Sp) (id:Int):Bool:=(Mk.idxI s.X id).isSome || hasE (tabOf s).1 id
def itemsOf (s:Sp) (id:Int):List Int:=match Mk.idxI s.X id with
 | some i=>[-1-(i:Int)]
 | none=>bytesI (if hasE (tabOf s).1 id=true then byt (tabOf s).1 id else ⟨#[]⟩)
theorem bytes_at {p:Nat} {E:List Ent} {w:World} (h:TabAt w p E) (id:Int):Calls Tryz.prog 104 #[.pointer (some ⟨p,0,none⟩),.int .i64 id] w fun e w'=>e=.returned (.tuple #[.string (if hasE E id=true then byt E id else ⟨#[]⟩),.bool (hasE E id)])/\Below w.heap.size w w':=by
 cases hh:hasE E id with
 | true =>
  have h1:0≤id/\id<(E.length:Int):=of_decide_eq_true hh
  obtain⟨i,rfl⟩:=Int.eq_ofNat_of_zero_le h1.1
  have hi:i<E.length:=Z1
  rw[if_pos rfl,byt_at hi]
  exact(bytes_yes h i hi).mono fun e w' ⟨he,hd⟩=>⟨he,by obtain⟨n,rfl⟩:=hd;exact pw_below_drewN (Below.refl _ _) n⟩
 | false =>
  have h1:¬ (0≤id/\id<(E.length:Int)):=of_decide_eq_false hh
  rw[if_neg (Z31)]
  exact(bytes_no h id h1).mono fun e w' ⟨he,hd⟩=>⟨he,hd ▸ Below.refl _ _⟩
theorem byt_small {E:List Ent} (h:∀ x∈E,1≤x.f0.size/\x.f0.size≤64) (id:Int):(if hasE E id=true then byt E id else ⟨#[]⟩).size≤64:=by
 cases hh:hasE E id with
 | true =>
  have h1:0≤id/\id<(E.length:Int):=of_decide_eq_true hh
  obtain⟨i,rfl⟩:=Int.eq_ofNat_of_zero_le h1.1
  have hi:i<E.length:=Z1
  rw[if_pos rfl,byt_at hi]
  exact(h _ (List.getElem_mem hi)).2
 | false=>rw[if_neg (Z31)];decide
theorem items_one {w:World} {v:Nat} {s:Sp} (h:VocAt w v s) (id:Int):Calls Tryz.prog 73 #[.pointer (some ⟨v,0,none⟩),.int .i64 id] w fun e w'=>∃ sv:Value,e=.returned (.tuple #[sv,.bool (hasId s id)])/\Kd.R (Kd.int .i64) 3 w' w.heap.size (fun _=>True) sv (itemsOf s id)/\Below w.heap.size w w':=by
 obtain⟨_,_,w0,pt,pb,pm,h1,h2,h3,h4,h5,h6,h7,h8⟩:=h
 have HM:=As.mk (Mk.mark_any (h5.below h2) id)
 have HT:=As.mk (bytes_at (h3.below h2) id)
 have hsm:=byt_small h3.small id
 have HS:=As.mk hsm
 clear hsm h5 h4 h3 h2 h1 h7
 unfold hasId itemsOf
 cases hi:Mk.idxI s.X id with
 | some i =>
  rw[hi]at HM
  unfold Mk.markT Mk.markV at HM
  simp only[Option.isSome_some,Bool.true_or]at HM ⊢
  clear hi HT HS
  go_enter Tryz.func73,Tryz.ntmps73
  go_wp2_with (go_at_call 98;refine HM.out.mono ?_;rintro e w1 ⟨rfl,rfl⟩)
  go_ret2
  exact⟨_,rfl,Kd.R_of_own (own_lit w w.heap.size 3 .i64 [-1-(i:Int)] (Nat.le_refl _) (by simp)) (fun _ _=>trivial),below_alloc (Below.refl _ _) _⟩
 | none =>
  rw[hi]at HM
  unfold Mk.markT Mk.markV at HM
  simp only[Option.isSome_none,Bool.false_or]at HM ⊢
  clear hi
  generalize (if hasE (tabOf s).1 id=true then byt (tabOf s).1 id else ⟨#[]⟩)=sb at *
  generalize hasE (tabOf s).1 id=ok at *
  go_enter Tryz.func73,Tryz.ntmps73
  go_wp2_with (first
   | (go_at_call 98;refine HM.out.mono ?_;rintro e w1 ⟨rfl,rfl⟩)
   | (go_at_call 104;refine HT.out.mono ?_;rintro e w2 ⟨rfl,hb⟩;have HB2:=As.mk hb;clear hb)
   | (go_at_call 28;refine(bytes_of sb (Z116) _).mono ?_;rintro e w3 ⟨sv,rfl,ho,hb⟩;have HB3:=As.mk (bt_ HB2.out hb);have HO3:=As.mk ho;clear ho hb))
  go_ret2
  exact⟨_,rfl,Kd.R_lower HO3.out HB2.out.size,HB3.out⟩
end Go.Proofs.YtkffhgiiejbnaaaGreat.Vc
namespace Go.Proofs.YtkffhgiiejbnaaaGreat.Vc
open Go.Shelf Go.RowKit YtkffhgiiejbnaaaGreatW.PrintWords YtkffhgiiejbnaaaGreatW.PrintLast YtkffhgiiejbnaaaGreatW.PrintMore Rf Aid Mp Hp Go.Proofs.YtkffhgiiejbnaaaGreat.Fn Bn Tk
def itF (s:Sp):List Int->Nat->List Int->List Int × Nat × Int
 | [],n,xs=>(xs,n,0)
 | id::l,n,xs=>if hasId s id=true then itF s l (n+1) (xs++itemsOf s id) else ([],n,4)
theorem items_len {w:World} {v:Nat} {s:Sp} (h:VocAt w v s) (id:Int):(itemsOf s id).length≤64:=by
 obtain⟨_,_,w0,pt,pb,pm,h1,h2,h3,h4,h5,h6,h7,h8⟩:=h
 unfold itemsOf
 split
 ·simp
 ·rw[bytesI_len];exact byt_small h3.small id
def Used (w:World) (v:Nat) (w':World):Prop:=∃ m:Int,Below w.heap.size (w.setCell ⟨v,13,none⟩ (.int .i64 m)) w'
theorem set_size (w:World) (a:Addr) (u:Value):(w.setCell a u).heap.size=w.heap.size:=Z12
theorem items_any {w:World} {v:Nat} {s:Sp} (h:VocAt w v s) (A:Option Addr) (c:Nat) (ids:List Int) (hr:∀ m:Int,Kd.C (Kd.int .i64) (w.setCell ⟨v,13,none⟩ (.int .i64 m)) A ids.length ids) (hl:ids.length≤1000000) :
  Calls Tryz.prog 29 #[.pointer (some ⟨v,0,none⟩),.slice A ids.length c] w fun e w'=>∃ sv:Value,e=.returned (.tuple #[sv,.int .i64 (itF s ids 0 []).2.1,.int .i64 (itF s ids 0 []).2.2])/\Kd.R (Kd.int .i64) 3 w' w.heap.size (fun _=>True) sv (itF s ids 0 []).1/\VocAt w' v s/\Used w v w':=by
 have HR:=As.mk hr
 have HL:=As.mk (items_len h)
 have HV:=As.mk h
 clear hr h
 obtain⟨R,hR⟩:∃ R,itF s ids 0 []=R:=⟨_,rfl⟩
 have HF0:=As.mk (show itF s (ids.drop 0) 0 []=R from hR)
 rw[hR]
 clear hR
 go_enter Tryz.func29,Tryz.ntmps29
 go_wp2_with (go_at_call 72;refine(uses_any HV.out).mono ?_;rintro e w1 ⟨m,rfl,hw1⟩;have HV1:=As.mk (HV.out.used m);have HR1:=As.mk (HR.out m);have hsz:=set_size w ⟨v,13,none⟩ (.int .i64 m);rw[←hw1]at HV1 HR1 hsz;have HW1:=As.mk hw1;have HSZ:=As.mk hsz;clear hw1 hsz HR)
 go_loopg [7,20] ids.length (fun k v7 v20 w'=>∃ (i:Nat) (xs:List Int),v20=.int .i64 i/\i≤ids.length/\As (Kd.R (Kd.int .i64) 3 w' w1.heap.size (fun _=>True) v7 xs)/\As (itF s (ids.drop i) i xs=R)/\As (xs.length≤i * 64)/\As (ids.length-i≤k)/\As (Below w1.heap.size w1 w'))
 case atStart=>exact⟨0,[],rfl,Nat.zero_le _,⟨Kd.R_nil _ _ _ _ _⟩,HF0,⟨by simp⟩,⟨Z1⟩,⟨Below.refl _ _⟩⟩
 case round =>
  clear HF0
  obtain⟨i,xs,rfl,hi,HO,HF,HX,HK,HB⟩:=hrel
  by_cases hlt:i<ids.length
  ·obtain⟨k1,rfl⟩:∃ k1,gk=k1+1:=⟨gk-1,Z65⟩
   obtain⟨ad,rfl,x0⟩:=Kd.at_int (Kd.C_below HR1.out HB.out) (i:Int) (Z1) (Z1)
   rw[Int.toNat_natCast,rdI hlt]at x0
   have hltI:(i:Int)<ids.length:=Z1
   have HF':=As.mk (show itF s (ids[i]::ids.drop (i+1)) i xs=R from List.drop_eq_getElem_cons hlt ▸ HF.out)
   clear HF
   generalize ids[i]=id at *
   have HI:=As.mk (items_one (HV1.out.below HB.out) id)
   cases hh:hasId s id with
   | false =>
    rw[hh]at HI
    have hA:=HF'.out
    unfold itF at hA
    rw[if_neg (by rw[hh];decide)]at hA
    subst hA
    clear HF' hh
    go_wp2_with (go_at_call 73;refine HI.out.mono ?_;rintro e w2 ⟨sv,rfl,ho,hb⟩;have HB2:=As.mk (bt_ HB.out hb);clear hb ho)
    go_ret3
    exact⟨_,rfl,Kd.R_nil _ _ _ _ _,HV1.out.below HB2.out,m,by rw[←HW1.out,←HSZ.out];exact HB2.out⟩
   | true =>
    rw[hh]at HI
    have hA:=HF'.out
    unfold itF at hA
    rw[if_pos hh]at hA
    have HA:=As.mk hA
    clear HF' hh hA
    have HL1:=As.mk (HL.out id)
    generalize itemsOf s id=l at *
    go_wp2_with (first
     | (go_at_call 73;refine HI.out.mono ?_;rintro e w2 ⟨sv,rfl,ho,hb⟩;obtain⟨A2,c2,rfl⟩:=Kd.R_slice ho;have HC2:=As.mk (Kd.R_reads' ho).2.2;have HO2:=As.mk (Kd.R_below HO.out hb);have HB2:=As.mk (bt_ HB.out hb);clear ho hb HO HB HI)
     | ((with_reducible refine gate_builtin (b:=.append) (xs:=#[.tmp 34,.tmp 35]) rfl ?_);at_builtin;refine Kd.R_append_rows (Kd.int .i64) (Rr:=(Kd.int .i64).K w2) (w0:=w1) w1.heap.size rfl (.tmp 34) (.tmp 35) 41 3 (.int .i64 0) 8 rfl Tryz.underlying41 info3 rfl (Z31) (Z1) _ xs l A2 l.length c2 (fun _=>True) (fun _=>False) (by rfl) (by rfl) ?q1 ?q2 ?q3 (fun _ hk=>hk.elim) (fun _ _=>trivial) ?q4 ?q5 ?q6 ?_;(case q1=>exact HO2.out);(case q2=>exact HC2.out.imp_ (Below.refl _ _) (fun _ _ h=>h));(case q3=>intro x cs hk;exact hk);(case q4=>exact HB2.out);(case q5=>exact HB2.out.size);(case q6=>have h1:=HX.out;have h2:=HL1.out;omega);intro v3 w3 ho hb hg hat;have HO3:=As.mk ho;have HB3:=As.mk hb;clear ho hb hg hat HO2 HB2))
    go_roundg k1
    case measure=>omega
    case rel=>exact⟨i+1,xs++l,Z67,Z1,HO3,HA,⟨by rw[List.length_append];have h1:=HX.out;have h2:=HL1.out;omega⟩,⟨Z65⟩,HB3⟩
  ·obtain rfl:i=ids.length:=by omega
   have hA:=HF.out
   rw[List.drop_length]at hA
   have hA':(xs,ids.length,(0:Int))=R:=hA
   subst hA'
   go_wp2
   go_ret3
   exact⟨_,rfl,by rw[←HSZ.out];exact HO.out,HV1.out.below HB.out,m,by rw[←HW1.out,←HSZ.out];exact HB.out⟩
end Go.Proofs.YtkffhgiiejbnaaaGreat.Vc
