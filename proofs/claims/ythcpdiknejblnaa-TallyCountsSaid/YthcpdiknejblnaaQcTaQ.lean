import Derived.Test.YthcpdiknejblnaaQcHp
set_option maxRecDepth 100000
set_option maxHeartbeats 400000
set_option linter.unusedVariables false
set_option linter.unusedSimpArgs false
namespace Go.Proofs.Ythcpdiknejblnaa.Ta
open Go.RowKit YthcpdiknejblnaaW.PrintWords YthcpdiknejblnaaW.PrintLast YthcpdiknejblnaaW.PrintMore Rf Aid
theorem infoI:(Try.prog.info? 3).map (fun i=>(i.zero,i.size,i.bytes))=some (some (.int .i64 0),1,8):=Z7
theorem clone_row (A:Option Addr) (c:Nat) (l:List Int) (w:World) (hr:Kd.C (Kd.int .i64) w A l.length l) (hl:l.length≤1000000) :
  Calls Try.prog 36 #[.slice A l.length c] w fun e w'=>∃ v,e=.returned v/\(Kd.int .i64).R 3 w' w.heap.size (fun _=>True) v l/\Below w.heap.size w w':=by
 have HR:=As.mk hr
 clear hr
 have q33:∀ (w:World) (a:Option Addr) (n c n' c':Nat),(binOp .eql 37 (.slice a n c) (.slice none n' c')).run Try.prog w=.ok (.bool a.isNone) w:=fun w a n c n' c'=>Lib.run_eql_slice_nil w _ _ a n c n' c' Try.underlying37
 cases A with
 | none =>
  have h0:l.length=0:=by
   rcases Nat.eq_zero_or_pos l.length with h|h
   ·exact h
   ·obtain⟨ad,e,_⟩:=HR.out.2.2 h;cases e
  obtain rfl:l=[]:=List.eq_nil_of_length_eq_zero h0
  go_enter Try.func36,Try.ntmps36
  go_wp2
  go_ret
  exact⟨.slice none 0 0,rfl,Kd.R_nil _ _ _ _ _,Below.refl _ _⟩
 | some ad =>
  go_enter Try.func36,Try.ntmps36
  go_wp2_with ((with_reducible refine gate_builtin (b:=.append) (xs:=#[.tmp 5,.tmp 6]) rfl ?_);at_builtin;(refine Kd.R_append_rows (Kd.int .i64) (Rr:=(Kd.int .i64).K w) (w0:=w) w.heap.size rfl (.tmp 5) (.tmp 6) 37 3 (.int .i64 0) 8 rfl Try.underlying37 infoI rfl (Z15) (Z0) (.slice (some ⟨w.heap.size,0,none⟩) 0 0) [] l (some ad) l.length c (fun _=>True) (fun _=>False) (by rfl) (by rfl) ?q1 ?q2 ?q3 (fun _ hk=>hk.elim) (fun _ _=>trivial) ?q4 ?q5 ?q6 ?_))
  case q1=>exact⟨fun _ _=>trivial,[],World.ownsRow_made w #[] 0 (Nat.le_refl _) (Nat.zero_le _) (by simp),Reps.none _ _⟩
  case q2=>exact HR.out.imp_ (below_alloc (Below.refl _ _) _) (fun _ _ h=>h)
  case q3=>intro x cs hk;exact hk
  case q4=>exact below_alloc (Below.refl _ _) _
  case q5=>simp
  case q6=>simp;omega
  intro v1 w1 ho hb hg hat
  obtain⟨A1,c1,rfl⟩:=Kd.R_slice ho
  have HO1:=As.mk ho
  have HB1:=As.mk hb
  clear ho hb hg hat
  go_wp2
  go_ret
  exact⟨_,rfl,HO1.out,HB1.out⟩
end Go.Proofs.Ythcpdiknejblnaa.Ta
