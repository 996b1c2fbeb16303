import Derived.Test.YthcpdiknejblnaaQeTaN
set_option linter.unusedVariables false
set_option linter.unusedSimpArgs false
namespace Go.Proofs.Ythcpdiknejblnaa.Ta
open Go Go.MapKept Go.RowKit Go.ChangeMaps Go.Sort Go.Lib Mp YthcpdiknejblnaaW.PrintWords YthcpdiknejblnaaW.PrintLast YthcpdiknejblnaaW.PrintMore Rf Aid Hp
theorem perm_sum {a b:List Int} (h:a.Perm b):a.sum=b.sum:=by
 induction h with
 | nil=>rfl
 | cons x _ ih=>rw[List.sum_cons,List.sum_cons,ih]
 | swap x y l=>simp only[List.sum_cons];omega
 | trans _ _ h1 h2=>exact h1.trans h2
theorem sum_nn:∀ {xs:List Int},(∀ x∈xs,0≤x)->0≤xs.sum
 | [],_=>by simp
 | x::xs,h=>by
  have h1:=h x (by simp)
  have h2:=sum_nn (xs:=xs) (fun y hy=>h y (by simp[hy]))
  rw[List.sum_cons]
  omega
theorem sum_take {xs:List Int} (h:∀ x∈xs,0≤x) (i:Nat):0≤(xs.take i).sum/\(xs.take i).sum≤xs.sum:=by
 have h1:=sum_nn (xs:=xs.take i) (fun x hx=>h x (List.mem_of_mem_take hx))
 have h2:=sum_nn (xs:=xs.drop i) (fun x hx=>h x (List.mem_of_mem_drop hx))
 have h3:(xs.take i++xs.drop i).sum=xs.sum:=by rw[List.take_append_drop]
 rw[List.sum_append]at h3
 omega
theorem sum_next {xs:List Int} {i:Nat} {x:Int} (h:xs[i]?=some x):(xs.take (i+1)).sum=(xs.take i).sum+x:=by
 rw[List.take_add_one,h,List.sum_append]
 simp
theorem topE_len (I:List (Int × Int)):(topE I).length=I.length:=by unfold topE;rw[List.length_mergeSort,List.length_map]
theorem topP_len (P:List ((Int × Int) × Int)):(topP P).length=P.length:=by unfold topP;rw[List.length_mergeSort,List.length_map]
theorem topE_sum (I:List (Int × Int)):((topE I).map (·.f1)).sum=sumN I:=by
 unfold topE
 rw[perm_sum ((List.mergeSort_perm (I.map toE) leE).map (·.f1)),List.map_map]
 rfl
theorem topP_sum (P:List ((Int × Int) × Int)):((topP P).map (·.f2)).sum=sumN P:=by
 unfold topP
 rw[perm_sum ((List.mergeSort_perm (P.map toP) leP).map (·.f2)),List.map_map]
 rfl
theorem topE_mem {l:List (List Int)} {e:S32} (h:e∈topE (ofI l)):e.f1=((cntL l e.f0:Nat):Int):=by
 have h1:=(List.mergeSort_perm ((ofI l).map toE) leE).mem_iff.1 h
 obtain⟨p,hp,rfl⟩:=List.mem_map.1 h1
 have h2:=getN_mem (fine_ofI l).nd hp
 rw[getN_ofI]at h2
 exact h2.symm
theorem topP_mem {l:List (List Int)} {e:S35} (h:e∈topP (ofP l)):e.f2=((behL l e.f0 e.f1:Nat):Int)/\1≤e.f2:=by
 have h1:=(List.mergeSort_perm ((ofP l).map toP) leP).mem_iff.1 h
 obtain⟨p,hp,rfl⟩:=List.mem_map.1 h1
 have h2:=getN_mem (fine_ofP l).nd hp
 rw[getN_ofP l p.1.1 p.1.2]at h2
 exact⟨h2.symm,(fine_ofP l).one p hp⟩
theorem pw_next {α:Type} {R:α->α->Prop} {xs:List α} (h:xs.Pairwise R) {i:Nat} {p q:α} (hp:xs[i]?=some p) (hq:xs[i+1]?=some q):R p q:=by
 obtain⟨h1,rfl⟩:=List.getElem?_eq_some_iff.1 hp
 obtain⟨h2,rfl⟩:=List.getElem?_eq_some_iff.1 hq
 exact List.pairwise_iff_getElem.1 h i (i+1) h1 h2 (Nat.lt_succ_self i)
theorem map_at {α β:Type} {f:α->β} {xs:List α} {i:Nat} {x:α} (h:xs[i]?=some x):(xs.map f)[i]?=some (f x):=by rw[List.getElem?_map,h];rfl
theorem topE_next {l:List (List Int)} {i:Nat} {p e:S32} (hp:(topE (ofI l))[i]?=some p) (he:(topE (ofI l))[i+1]?=some e):e.f1<p.f1\/(p.f1=e.f1/\p.f0<e.f0):=by
 have h1:=pw_next (sortedE _) hp he
 unfold leE at h1
 rw[ltE]at h1
 simp only[Bool.not_eq_true',decide_eq_false_iff_not]at h1
 have hn:((topE (ofI l)).map (·.f0)).Nodup:=by
  have hpm:=(List.mergeSort_perm ((ofI l).map toE) leE).map (·.f0)
  rw[List.map_map]at hpm
  exact hpm.nodup_iff.2 (fine_ofI l).nd
 have h2:p.f0≠e.f0:=pw_next hn (map_at hp) (map_at he)
 omega
theorem topP_next {l:List (List Int)} {i:Nat} {p e:S35} (hp:(topP (ofP l))[i]?=some p) (he:(topP (ofP l))[i+1]?=some e):e.f2<p.f2\/(p.f2=e.f2/\p.f0<e.f0)\/(p.f2=e.f2/\p.f0=e.f0/\p.f1<e.f1):=by
 have h1:=pw_next (sortedP _) hp he
 unfold leP at h1
 rw[ltP]at h1
 simp only[Bool.not_eq_true',decide_eq_false_iff_not]at h1
 have hn:((topP (ofP l)).map (fun e=>(e.f0,e.f1))).Nodup:=by
  have hpm:=(List.mergeSort_perm ((ofP l).map toP) leP).map (fun e=>(e.f0,e.f1))
  rw[List.map_map]at hpm
  exact hpm.nodup_iff.2 (fine_ofP l).nd
 have h2:((p.f0,p.f1):Int × Int)≠(e.f0,e.f1):=pw_next hn (map_at hp) (map_at he)
 have h3:¬ (p.f0=e.f0/\p.f1=e.f1):=fun⟨q1,q2⟩=>h2 (by rw[q1,q2])
 omega
theorem firstN_all {α:Type} {l:List α} (h:l.length≤1000):firstN l 1000=l:=by
 unfold firstN
 have:(mn (l.length:Int) (mx 1000 0)).toNat=l.length:=by
  unfold mn mx
  split <;> split <;> omega
 rw[this,List.take_length]
theorem firstN_len {α:Type} (l:List α) (m:Int):((firstN l m).length:Int)=mn (mx m 0) (l.length:Int):=by
 unfold firstN
 have h:=firstN_ok l m
 rw[List.length_take]
 have h2:mn (mx m 0) (l.length:Int)=mn (l.length:Int) (mx m 0):=by
  unfold mn
  split <;> split <;> omega
 rw[h2]
 omega
theorem firstN_at {α:Type} (l:List α) (m:Int) {i:Nat} (h:i<(firstN l m).length):(firstN l m)[i]?=l[i]?:=by
 unfold firstN at *
 rw[List.length_take]at h
 rw[List.getElem?_take_of_lt (Z0)]
theorem ent_at {w:World} {A:Option Addr} {n:Nat} {xs:List S32} (h:Kd.C k32 w A n xs) {i:Nat} {x:S32} (hx:xs[i]?=some x):∃ ad,A=some ad/\w.cell? (ad.add (i * 2))=some (.int .i64 x.f0)/\w.cell? ⟨(ad.add (i * 2)).block,(ad.add (i * 2)).off+1,none⟩=some (.int .i64 x.f1):=by
 obtain⟨hl,e⟩:=List.getElem?_eq_some_iff.1 hx
 have hn:xs.length=n:=h.1
 have h1:=at_T32 h (i:Int) (Z0) (Z0)
 rw[Int.toNat_natCast,show rd_T32 xs (i:Int)=x by unfold rd_T32;rw[Int.toNat_natCast,List.getD_eq_getElem?_getD,hx];rfl]at h1
 exact h1
theorem pair_at {w:World} {A:Option Addr} {n:Nat} {xs:List S35} (h:Kd.C k35 w A n xs) {i:Nat} {x:S35} (hx:xs[i]?=some x):∃ ad,A=some ad/\w.cell? (ad.add (i * 3))=some (.int .i64 x.f0)/\w.cell? ⟨(ad.add (i * 3)).block,(ad.add (i * 3)).off+1,none⟩=some (.int .i64 x.f1)/\w.cell? ⟨(ad.add (i * 3)).block,(ad.add (i * 3)).off+2,none⟩=some (.int .i64 x.f2):=by
 obtain⟨hl,e⟩:=List.getElem?_eq_some_iff.1 hx
 have hn:xs.length=n:=h.1
 have h1:=at_T35 h (i:Int) (Z0) (Z0)
 rw[Int.toNat_natCast,show rd_T35 xs (i:Int)=x by unfold rd_T35;rw[Int.toNat_natCast,List.getD_eq_getElem?_getD,hx];rfl]at h1
 exact h1
theorem ent_ne (x:S32) (W:World):(binOp BinOp.neq 32 (.agg #[.int .i64 x.f0,.int .i64 x.f1]) (.agg #[.int .i64 x.f0,.int .i64 x.f1])).run Try.prog W=.ok (.bool false) W:=by
 have h:=ent_eq x W
 simp[binOp,h,Result.andThen]
theorem pair_eq (x:S35) (W:World):(Op.equal 35 (.agg #[.int .i64 x.f0,.int .i64 x.f1,.int .i64 x.f2]) (.agg #[.int .i64 x.f0,.int .i64 x.f1,.int .i64 x.f2])).run Try.prog W=.ok true W:=by
 have hS:Try.prog.underlying 35=some (.struct (Try.prog.fieldsOf 35)):=Z5
 have hp:Try.prog.stoodInHeld 35=false:=Z5
 have u3:=Try.underlying3
 have a3:=Try.isAgg3
 have z3:=Try.sizeOf3
 unfold Op.equal
 rw[show Op.maxDepth=9999+1 from rfl,run_equalIn_agg W 9999 35 _ _ hS hp]
 simp only[Program.fieldsOf,Try.underlying35]
 go_simp
theorem pair_ne (x:S35) (W:World):(binOp BinOp.neq 35 (.agg #[.int .i64 x.f0,.int .i64 x.f1,.int .i64 x.f2]) (.agg #[.int .i64 x.f0,.int .i64 x.f1,.int .i64 x.f2])).run Try.prog W=.ok (.bool false) W:=by
 have h:=pair_eq x W
 simp[binOp,h,Result.andThen]
end Go.Proofs.Ythcpdiknejblnaa.Ta
