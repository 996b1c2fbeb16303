import Derived.Test.YthcpdiknejblnaaQeTaP
import Derived.Test.YthcpdiknejblnaaQeAid
import Derived.Test.YthcpdiknejblnaaQeTaU
set_option maxHeartbeats 400000
set_option linter.unusedVariables false
set_option linter.unusedSimpArgs false
namespace Go.Proofs.Ythcpdiknejblnaa.Ta
open Go Go.MapKept Go.RowKit Go.ChangeMaps Mp YthcpdiknejblnaaW.PrintWords YthcpdiknejblnaaW.PrintLast YthcpdiknejblnaaW.PrintMore Rf Aid
structure Out (lo hi:Nat) (w w':World):Prop where
 os:w'.os=w.os
 tape:w'.tape=w.tape
 output:w'.output=w.output
 size:w.heap.size≤w'.heap.size
 block:∀ k,k<w.heap.size->(k<lo\/hi≤k)->w'.heap[k]?=w.heap[k]?
theorem Out.refl (lo hi:Nat) (w:World):Out lo hi w w:=⟨rfl,rfl,rfl,Nat.le_refl _,fun _ _ _=>rfl⟩
theorem Out.of_below {lo hi:Nat} {w w':World} (h:Below w.heap.size w w'):Out lo hi w w':=⟨h.os,h.tape,h.output,h.size,fun k hk _=>h.block k hk⟩
theorem Out.trans {lo hi:Nat} {a b c:World} (h:Out lo hi a b) (k:Out lo hi b c):Out lo hi a c :=
 ⟨k.os.trans h.os,k.tape.trans h.tape,k.output.trans h.output,Nat.le_trans h.size k.size,fun i hi' ho=>(k.block i (Nat.lt_of_lt_of_le hi' h.size) ho).trans (h.block i hi' ho)⟩
theorem Out.below {lo hi:Nat} {w w':World} (h:Out lo hi w w') (hl:lo≤w.heap.size):Below lo w w':=⟨h.os,h.tape,h.output,h.size,fun k hk=>h.block k (Nat.lt_of_lt_of_le hk hl) (.inl hk)⟩
theorem Out.but {lo hi b:Nat} {w w':World} (h:But b w w') (h1:lo≤b) (h2:b<hi):Out lo hi w w':=⟨h.os,h.tape,h.output,by rw[h.size];exact Nat.le_refl _,fun k _ hk=>h.block k (Z0)⟩
theorem Out.set {lo hi:Nat} (w:World) {a:Addr} (h1:lo≤a.block) (h2:a.block<hi) (u:Value):Out lo hi w (w.setCell a u):=by
 have h:=(Below.refl a.block w).setCell (p:=a) (Nat.le_refl _) u
 refine⟨h.os,h.tape,h.output,h.size,fun k _ hk=>?_⟩
 rcases Nat.lt_or_ge k a.block with q|q
 ·exact h.block k q
 ·exact set_far w (Z0) u
theorem Out.mono {lo hi lo' hi':Nat} {w w':World} (h:Out lo hi w w') (h1:lo'≤lo) (h2:hi≤hi'):Out lo' hi' w w':=⟨h.os,h.tape,h.output,h.size,fun k hk ho=>h.block k hk (Z0)⟩
structure TalAt (lo hi:Nat) (w:World) (d bi bp:Nat) (I:List (Int × Int)) (P:List ((Int × Int) × Int)) (n:Int):Prop where
 blk:w.heap[d]?=some (.cells #[.map (some bi),.map (some bp),.int .i64 n] 55 (0,0))
 ids:MapIs encInt w bi (vL I)
 prs:Blk encM w bp (vL P)
 ne:bi≠bp
 rd:lo≤d/\d<hi
 ri:lo≤bi/\bi<hi
 rp:lo≤bp/\bp<hi
variable {lo hi d bi bp:Nat} {w w':World} {I:List (Int × Int)} {P:List ((Int × Int) × Int)} {n:Int}
theorem TalAt.nei (h:TalAt lo hi w d bi bp I P n):bi≠d:=by
 rintro rfl
 obtain⟨es,clock,h1,_⟩:=h.ids
 have:=h.blk
 rw[h1]at this
 cases this
theorem TalAt.nep (h:TalAt lo hi w d bi bp I P n):bp≠d:=h.prs.ne_cells h.blk
theorem TalAt.below (h:TalAt lo hi w d bi bp I P n) (hb:Below w.heap.size w w'):TalAt lo hi w' d bi bp I P n :=
 ⟨(hb.block _ (lt_of h.blk)).trans h.blk,h.ids.of_block (hb.block _ h.ids.lt),h.prs.of_block (hb.block _ h.prs.lt),h.ne,h.rd,h.ri,h.rp⟩
theorem TalAt.apart {lo2 hi2:Nat} (h:TalAt lo hi w d bi bp I P n) (ho:Out lo2 hi2 w w') (hh:hi≤lo2\/hi2≤lo):TalAt lo hi w' d bi bp I P n:=by
 have h1:=h.rd
 have h2:=h.ri
 have h3:=h.rp
 exact⟨(ho.block _ (lt_of h.blk) (Z0)).trans h.blk,h.ids.of_block (ho.block _ h.ids.lt (Z0)),h.prs.of_block (ho.block _ h.prs.lt (Z0)),h.ne,h.rd,h.ri,h.rp⟩
theorem TalAt.putI {w1:World} {I':List (Int × Int)} (h:TalAt lo hi w d bi bp I P n) (hb:But bi w w1) (hm:MapIs encInt w1 bi (vL I')):TalAt lo hi w1 d bi bp I' P n :=
 ⟨(hb.block _ (Ne.symm h.nei)).trans h.blk,hm,h.prs.of_block (hb.block _ (Ne.symm h.ne)),h.ne,h.rd,h.ri,h.rp⟩
theorem TalAt.putP {w1:World} {P':List ((Int × Int) × Int)} (h:TalAt lo hi w d bi bp I P n) (hb:But bp w w1) (hm:Blk encM w1 bp (vL P')):TalAt lo hi w1 d bi bp I P' n :=
 ⟨(hb.block _ (Ne.symm h.nep)).trans h.blk,h.ids.of_block (hb.block _ h.ne),hm,h.ne,h.rd,h.ri,h.rp⟩
theorem TalAt.putN (h:TalAt lo hi w d bi bp I P n) (m:Int):TalAt lo hi (w.setCell ⟨d,2,none⟩ (.int .i64 m)) d bi bp I P m :=
 ⟨blk_put h.blk 2 _ rfl,h.ids.of_block (set_far w (a:=⟨d,2,none⟩) h.nei _),h.prs.of_block (set_far w (a:=⟨d,2,none⟩) h.nep _),h.ne,h.rd,h.ri,h.rp⟩
theorem MapIs.nodup {w:World} {b:Nat} {l:List (Int × Int)} (h:MapIs encInt w b (vL l)):(l.map (·.1)).Nodup:=by
 obtain⟨es,clock,h1,h2,h3⟩:=h
 have:=nodup_keys h2 h3
 rw[keys_vL]at this
 exact this
theorem look_i (h:MapIs encInt w bi (vL I)) (x:Int):(Instr.lookup 51 (.map (some bi)) (.int .i64 x) false).run Try.prog w=.ok (.int .i64 (getN I x)) w:=by
 have h1:=lookup_bare (E:=encInt) (P:=Try.prog) (mty:=51) Try.underlying51 Try.underlying3 h x (z:=.int .i64 0) (Z5)
 rw[get_getD]at h1
 exact h1
theorem look_p (h:Blk encM w bp (vL P)) (x y:Int):(Instr.lookup 53 (.map (some bp)) (.agg #[.int .i64 x,.int .i64 y]) false).run Try.prog w=.ok (.int .i64 (getN P (x,y))) w:=by
 have h1:=look h (x,y)
 unfold getV at h1
 rw[get_getD]at h1
 exact h1
theorem put_i (h:MapIs encInt w bi (vL I)) (x k:Int):∃ w1,(Instr.mapUpdate 51 (.map (some bi)) (.int .i64 x) (.int .i64 (getN I x+k))).run Try.prog w=.ok () w1/\MapIs encInt w1 bi (vL (bump I x k))/\But bi w w1:=by
 obtain⟨w1,h1,h2,h3⟩:=update_run (E:=encInt) (P:=Try.prog) (mty:=51) Try.underlying51 Try.underlying3 h x (.int .i64 (getN I x+k))
 rw[put_vL (MapIs.nodup h)]at h2
 exact⟨w1,h1,h2,h3⟩
theorem Blk.nodup {l:List ((Int × Int) × Int)} {b:Nat} (h:Blk encM w b (vL l)):(l.map (·.1)).Nodup:=by
 obtain⟨es,clock,hb,hs,hl⟩:=h
 have h1:es.toList.map (·.key)=(vL l).map (fun p=>encM p.1):=by
  have:=congrArg (List.map (·.1)) hl
  rw[List.map_map,List.map_map]at this
  exact this
 have h2:=hs.2.2
 rw[h1]at h2
 have h3:((vL l).map (fun p=>encM p.1))=((vL l).map (·.1)).map encM:=by simp[List.map_map]
 rw[h3,keys_vL]at h2
 exact nodup_of_map _ _ h2
theorem put_p (h:Blk encM w bp (vL P)) (x y:Int):∃ (z:Value) (m:Int) (w1:World),(Instr.mapEntry 53 (.map (some bp)) (.agg #[.int .i64 x,.int .i64 y])).run Try.prog w=.ok (.tuple #[z,.int .i64 m]) w1/\But bp w w1 ∧
  (∀ w2,w2.heap[bp]?=w1.heap[bp]?->(Instr.lookup 53 (.map (some bp)) (.agg #[.int .i64 x,.int .i64 y]) false).run Try.prog w2=.ok (.int .i64 (getN P (x,y))) w2) ∧
   ∀ k:Int,∃ w2,(Instr.entryStore 53 (.map (some bp)) (.int .i64 m) (.int .i64 (getN P (x,y)+k))).run Try.prog w1=.ok () w2/\But bp w1 w2/\Blk encM w2 bp (vL (bump P (x,y) k)):=by
 obtain⟨z,m,w1,h1,h2,⟨l1,h3,h4⟩,h5⟩:=entry h (x,y)
 refine⟨z,m,w1,h1,h2,fun w2 hw=>?_,fun k=>?_⟩
 ·have h6:=look (h3.of_block hw) (x,y)
  rw[h4]at h6
  unfold getV at h6
  rw[get_getD]at h6
  exact h6
 ·obtain⟨w2,h6,h7,h8⟩:=h5 (.int .i64 (getN P (x,y)+k))
  rw[put_vL (Blk.nodup h)]at h8
  exact⟨w2,h6,h7,h8⟩
theorem new_any (w:World):Calls Try.prog 22 #[] w fun e w'=>∃ d bi bp,e=.returned (.pointer (some ⟨d,0,none⟩))/\TalAt w.heap.size w'.heap.size w' d bi bp [] [] 0/\Below w.heap.size w w':=by
 have hmm:=@run_makeMap Try.prog
 go_enter Try.func22,Try.ntmps22
 go_wp2
 go_ret
 obtain⟨w1,h1⟩:∃ w1,w1=w.alloc (.map #[] 0):=⟨_,rfl⟩
 obtain⟨w2,h2⟩:∃ w2,w2=w1.alloc (.map #[] 0):=⟨_,rfl⟩
 have s1:w1.heap.size=w.heap.size+1:=by rw[h1];simp
 have s2:w2.heap.size=w.heap.size+2:=by rw[h2];simp[s1]
 have m1:MapIs encInt w1 w.heap.size ([]:List (Int × Value)):=by rw[h1];exact MapIs.made encInt w
 have m2:Blk encM w2 w1.heap.size ([]:List ((Int × Int) × Value)):=by rw[h2];exact Blk.made encM w1
 have m1':MapIs encInt w2 w.heap.size ([]:List (Int × Value)):=by rw[h2];exact m1.of_block ((heap_alloc w1 _).2 _ m1.lt)
 have hb1:Below w.heap.size w w1:=by rw[h1];exact below_alloc (Below.refl _ _) _
 have hb2:Below w.heap.size w w2:=by rw[h2];exact below_alloc hb1 _
 rw[←h1,←h2]
 rw[s1]at m2
 refine⟨w2.heap.size,w.heap.size,w.heap.size+1,by simp[s1,s2],⟨(heap_alloc w2 _).1,m1'.of_block ((heap_alloc w2 _).2 _ m1'.lt),m2.of_block ((heap_alloc w2 _).2 _ m2.lt),Z0,Z1,Z1,Z1⟩,below_alloc hb2 _⟩
theorem count_nil (x:Int) (w:World):Calls Try.prog 17 #[.pointer none,.int .i64 x] w fun e w'=>e=.returned (.int .i64 0)/\w=w':=by
 go_enter Try.func17,Try.ntmps17
 go_wp2
 go_ret
 exact⟨rfl,rfl⟩
theorem behind_any (h:TalAt lo hi w d bi bp I P n) (x y:Int):Calls Try.prog 18 #[.pointer (some ⟨d,0,none⟩),.int .i64 x,.int .i64 y] w fun e w'=>e=.returned (.int .i64 (getN P (x,y)))/\w=w':=by
 have c1:=cell_of (i:=1) h.blk rfl
 have hl:=look_p h.prs x y
 clear h
 go_enter Try.func18,Try.ntmps18
 go_wp2
 go_ret
 exact⟨rfl,rfl⟩
theorem total_any (h:TalAt lo hi w d bi bp I P n):Calls Try.prog 14 #[.pointer (some ⟨d,0,none⟩)] w fun e w'=>e=.returned (.int .i64 n)/\w=w':=by
 have c2:=cell_of (i:=2) h.blk rfl
 clear h
 go_enter Try.func14,Try.ntmps14
 go_wp2
 go_ret
 exact⟨rfl,rfl⟩
theorem kinds_any (h:TalAt lo hi w d bi bp I P n):Calls Try.prog 15 #[.pointer (some ⟨d,0,none⟩)] w fun e w'=>e=.returned (.int .i64 (I.length:Int))/\w=w':=by
 have c0:=cell_of (i:=0) h.blk rfl
 have HI:=As.mk (show Blk (κ:=Int) encInt.enc w bi (vL I) from h.ids)
 have HL:=As.mk (show (vL I).length=I.length by unfold vL;rw[List.length_map])
 clear h
 go_enter Try.func15,Try.ntmps15
 go_wp2_with (at_len;refine wpList_len_blk _ rfl _ 51 rfl _ _ Try.underlying51 rfl HI.out ?_;rw[HL.out])
 go_ret
 exact⟨rfl,rfl⟩
end Go.Proofs.Ythcpdiknejblnaa.Ta
