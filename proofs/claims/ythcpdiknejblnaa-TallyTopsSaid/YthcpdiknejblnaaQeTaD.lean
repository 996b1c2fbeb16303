import Derived.Test.YthcpdiknejblnaaQeTaC
set_option maxHeartbeats 400000
set_option linter.unusedVariables false
set_option linter.unusedSimpArgs false
namespace Go.Proofs.Ythcpdiknejblnaa.Ta
open Go Go.MapKept Go.RowKit Go.ChangeMaps Mp YthcpdiknejblnaaW.PrintWords YthcpdiknejblnaaW.PrintLast YthcpdiknejblnaaW.PrintMore Rf Aid Hp
theorem vL_split {κ:Type} {l:List (κ × Int)} {A B:List (κ × Value)} {p:κ × Value} (h:vL l=A++p::B):∃ A' p' B',l=A'++p'::B'/\p=(p'.1,.int .i64 p'.2)/\vL (A'++B')=A++B:=by
 unfold vL at h
 obtain⟨l1,l2,e1,e2,e3⟩:=List.map_eq_append_iff.1 h
 obtain⟨p',l3,e4,e5,e6⟩:=List.map_eq_cons_iff.1 e3
 subst e4
 refine⟨l1,p',l3,e1,e5.symm,?_⟩
 unfold vL
 rw[List.map_append,e2,e6]
theorem Out.grown {lo hi:Nat} {a b c:World} (h:Out lo hi a b) {r:Nat} (hg:b.grownBy c (some r)) (hr:a.heap.size≤r):Out lo hi a c :=
 ⟨hg.os.trans h.os,hg.tape.trans h.tape,hg.output.trans h.output,Nat.le_trans h.size hg.size,fun k hk ho=>(hg.block k (Nat.lt_of_lt_of_le hk h.size) (fun e=>by injection e with e;omega)).trans (h.block k hk ho)⟩
theorem Rg.but {κ:Type} [DecidableEq κ] {enc:κ->Value} {w w':World} {b r c:Nat} {rest:List (κ × Value)} (h:Rg enc w b r rest) (hb:But c w w') (h1:b≠c) (h2:r≠c):Rg enc w' b r rest:=h.of_blocks (hb.block _ h1) (hb.block _ h2)
theorem perm_step {κ:Type} {M D A B:List (κ × Int)} {p:κ × Int} (h:(D++(A++p::B)).Perm M):((D++[p])++(A++B)).Perm M:=by
 refine List.Perm.trans ?_ h
 rw[List.append_assoc]
 exact List.Perm.append_left D (List.perm_middle (a:=p) (l₁:=A) (l₂:=B)).symm
variable {w:World} {b c:Nat} {n m:Int}
end Go.Proofs.Ythcpdiknejblnaa.Ta
