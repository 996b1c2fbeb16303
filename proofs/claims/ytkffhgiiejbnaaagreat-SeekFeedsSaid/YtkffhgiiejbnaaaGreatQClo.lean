import Derived.Test.YtkffhgiiejbnaaaGreatQHp
set_option maxRecDepth 100000
set_option maxHeartbeats 400000
set_option linter.unusedVariables false
set_option linter.unusedSimpArgs false
namespace Go.Proofs.YtkffhgiiejbnaaaGreat.Cl
open Go.RowKit YtkffhgiiejbnaaaGreatW.PrintWords YtkffhgiiejbnaaaGreatW.PrintLast YtkffhgiiejbnaaaGreatW.PrintMore Rf Aid Mp Hp
theorem cloneT (w:World):Calls Tryz.prog 156 #[.slice none 0 0] w fun e w'=>e=.returned (.slice none 0 0)/\Below w.heap.size w w':=by
 have q22:∀ (w:World) (a:Option Addr) (n c n' c':Nat),(binOp .eql 31 (.slice a n c) (.slice none n' c')).run Tryz.prog w=.ok (.bool a.isNone) w:=fun w a n c n' c'=>Lib.run_eql_slice_nil w _ _ a n c n' c' Tryz.underlying31
 go_enter Tryz.func156,Tryz.ntmps156
 go_wp2
 go_ret
 exact⟨rfl,Below.refl _ _⟩
theorem infoM:(Tryz.prog.info? 91).map (fun i=>(i.zero,i.size,i.bytes))=some (some (.agg #[.int .i64 0,.int .i64 0]),2,16):=Z15
theorem cloneM (A:Option Addr) (c:Nat) (l:List S91) (w:World) (hr:Kd.C k91 w A l.length l) (hl:l.length≤1000) :
  Calls Tryz.prog 155 #[.slice A l.length c] w fun e w'=>∃ A' c',e=.returned (.slice A' l.length c')/\Kd.C k91 w' A' l.length l/\Below w.heap.size w w':=by
 have HR:=As.mk hr
 clear hr
 have q22:∀ (w:World) (a:Option Addr) (n c n' c':Nat),(binOp .eql 32 (.slice a n c) (.slice none n' c')).run Tryz.prog w=.ok (.bool a.isNone) w:=fun w a n c n' c'=>Lib.run_eql_slice_nil w _ _ a n c n' c' Tryz.underlying32
 cases A with
 | none =>
  have h0:l.length=0:=by
   rcases Nat.eq_zero_or_pos l.length with h|h
   ·exact h
   ·obtain⟨ad,e,_⟩:=HR.out.2.2 h;cases e
  obtain rfl:l=[]:=List.eq_nil_of_length_eq_zero h0
  go_enter Tryz.func155,Tryz.ntmps155
  go_wp2
  go_ret
  exact⟨none,0,rfl,HR.out,Below.refl _ _⟩
 | some ad =>
  go_enter Tryz.func155,Tryz.ntmps155
  go_wp2_with ((with_reducible refine gate_builtin (b:=.append) (xs:=#[.tmp 5,.tmp 6]) rfl ?_);at_builtin;refine Kd.R_append_rows k91 (Rr:=(k91).K w) (w0:=w) w.heap.size rfl (.tmp 5) (.tmp 6) 32 91 (.agg #[.int .i64 0,.int .i64 0]) 16 rfl Tryz.underlying32 infoM rfl (Z31) (Z1) (.slice (some ⟨w.heap.size,0,none⟩) 0 0) [] l (some ad) l.length c (fun _=>True) (fun _=>False) (by rfl) (by rfl) ?q1 ?q2 ?q3 (fun _ hk=>hk.elim) (fun _ _=>trivial) ?q4 ?q5 ?q6 ?_)
  case q1=>exact⟨fun _ _=>trivial,[],World.ownsRow_made w #[] 0 (Nat.le_refl _) (Nat.zero_le _) (by simp),Reps.none _ _⟩
  case q2=>exact HR.out.imp_ (below_alloc (Below.refl _ _) _) (fun _ _ h=>h)
  case q3=>intro x cs hk;obtain rfl:=k91_open hk;exact k91_mkM _ _ _ x
  case q4=>exact below_alloc (Below.refl _ _) _
  case q5=>simp
  case q6=>simp;omega
  intro v1 w1 ho hb hg hat
  obtain⟨A1,c1,rfl,hc1,hr1⟩:=Kd.R_reads ho
  have HR1:=As.mk hr1
  have HB1:=As.mk hb
  clear ho hb hg hat hr1
  go_wp2
  go_ret
  exact⟨A1,c1,rfl,HR1.out,HB1.out⟩
theorem infoS:(Tryz.prog.info? 93).map (fun i=>(i.zero,i.size,i.bytes))=some (some (.agg #[.int .i64 0,.string ⟨#[]⟩]),2,24):=Z15
theorem cloneS (A:Option Addr) (c:Nat) (l:List S93) (w:World) (hr:Kd.C k93 w A l.length l) (hl:l.length≤1000) :
  Calls Tryz.prog 157 #[.slice A l.length c] w fun e w'=>∃ A' c',e=.returned (.slice A' l.length c')/\Kd.C k93 w' A' l.length l/\Below w.heap.size w w':=by
 have HR:=As.mk hr
 clear hr
 have q22:∀ (w:World) (a:Option Addr) (n c n' c':Nat),(binOp .eql 25 (.slice a n c) (.slice none n' c')).run Tryz.prog w=.ok (.bool a.isNone) w:=fun w a n c n' c'=>Lib.run_eql_slice_nil w _ _ a n c n' c' Tryz.underlying25
 cases A with
 | none =>
  have h0:l.length=0:=by
   rcases Nat.eq_zero_or_pos l.length with h|h
   ·exact h
   ·obtain⟨ad,e,_⟩:=HR.out.2.2 h;cases e
  obtain rfl:l=[]:=List.eq_nil_of_length_eq_zero h0
  go_enter Tryz.func157,Tryz.ntmps157
  go_wp2
  go_ret
  exact⟨none,0,rfl,HR.out,Below.refl _ _⟩
 | some ad =>
  go_enter Tryz.func157,Tryz.ntmps157
  go_wp2_with ((with_reducible refine gate_builtin (b:=.append) (xs:=#[.tmp 5,.tmp 6]) rfl ?_);at_builtin;refine Kd.R_append_rows k93 (Rr:=(k93).K w) (w0:=w) w.heap.size rfl (.tmp 5) (.tmp 6) 25 93 (.agg #[.int .i64 0,.string ⟨#[]⟩]) 24 rfl Tryz.underlying25 infoS rfl (Z31) (Z1) (.slice (some ⟨w.heap.size,0,none⟩) 0 0) [] l (some ad) l.length c (fun _=>True) (fun _=>False) (by rfl) (by rfl) ?q1 ?q2 ?q3 (fun _ hk=>hk.elim) (fun _ _=>trivial) ?q4 ?q5 ?q6 ?_)
  case q1=>exact⟨fun _ _=>trivial,[],World.ownsRow_made w #[] 0 (Nat.le_refl _) (Nat.zero_le _) (by simp),Reps.none _ _⟩
  case q2=>exact HR.out.imp_ (below_alloc (Below.refl _ _) _) (fun _ _ h=>h)
  case q3=>intro x cs hk;obtain rfl:=k93_open hk;exact k93_mkM _ _ _ x
  case q4=>exact below_alloc (Below.refl _ _) _
  case q5=>simp
  case q6=>simp;omega
  intro v1 w1 ho hb hg hat
  obtain⟨A1,c1,rfl,hc1,hr1⟩:=Kd.R_reads ho
  have HR1:=As.mk hr1
  have HB1:=As.mk hb
  clear ho hb hg hat hr1
  go_wp2
  go_ret
  exact⟨A1,c1,rfl,HR1.out,HB1.out⟩
theorem infoC:(Tryz.prog.info? 165).map (fun i=>(i.zero,i.size,i.bytes))=some (some (.agg #[.int .i64 0,.int .i64 0,.int .i64 0]),3,24):=Z15
theorem cloneC (A:Option Addr) (c:Nat) (l:List S165) (w:World) (hr:Kd.C k165 w A l.length l) (hl:l.length≤1000) :
  Calls Tryz.prog 158 #[.slice A l.length c] w fun e w'=>∃ A' c',e=.returned (.slice A' l.length c')/\Kd.C k165 w' A' l.length l/\Below w.heap.size w w':=by
 have HR:=As.mk hr
 clear hr
 have q22:∀ (w:World) (a:Option Addr) (n c n' c':Nat),(binOp .eql 23 (.slice a n c) (.slice none n' c')).run Tryz.prog w=.ok (.bool a.isNone) w:=fun w a n c n' c'=>Lib.run_eql_slice_nil w _ _ a n c n' c' Tryz.underlying23
 cases A with
 | none =>
  have h0:l.length=0:=by
   rcases Nat.eq_zero_or_pos l.length with h|h
   ·exact h
   ·obtain⟨ad,e,_⟩:=HR.out.2.2 h;cases e
  obtain rfl:l=[]:=List.eq_nil_of_length_eq_zero h0
  go_enter Tryz.func158,Tryz.ntmps158
  go_wp2
  go_ret
  exact⟨none,0,rfl,HR.out,Below.refl _ _⟩
 | some ad =>
  go_enter Tryz.func158,Tryz.ntmps158
  go_wp2_with ((with_reducible refine gate_builtin (b:=.append) (xs:=#[.tmp 5,.tmp 6]) rfl ?_);at_builtin;refine Kd.R_append_rows k165 (Rr:=(k165).K w) (w0:=w) w.heap.size rfl (.tmp 5) (.tmp 6) 23 165 (.agg #[.int .i64 0,.int .i64 0,.int .i64 0]) 24 rfl Tryz.underlying23 infoC rfl (Z31) (Z1) (.slice (some ⟨w.heap.size,0,none⟩) 0 0) [] l (some ad) l.length c (fun _=>True) (fun _=>False) (by rfl) (by rfl) ?q1 ?q2 ?q3 (fun _ hk=>hk.elim) (fun _ _=>trivial) ?q4 ?q5 ?q6 ?_)
  case q1=>exact⟨fun _ _=>trivial,[],World.ownsRow_made w #[] 0 (Nat.le_refl _) (Nat.zero_le _) (by simp),Reps.none _ _⟩
  case q2=>exact HR.out.imp_ (below_alloc (Below.refl _ _) _) (fun _ _ h=>h)
  case q3=>intro x cs hk;obtain rfl:=k165_open hk;exact k165_mkM _ _ _ x
  case q4=>exact below_alloc (Below.refl _ _) _
  case q5=>simp
  case q6=>simp;omega
  intro v1 w1 ho hb hg hat
  obtain⟨A1,c1,rfl,hc1,hr1⟩:=Kd.R_reads ho
  have HR1:=As.mk hr1
  have HB1:=As.mk hb
  clear ho hb hg hat hr1
  go_wp2
  go_ret
  exact⟨A1,c1,rfl,HR1.out,HB1.out⟩
theorem infoJ:(Tryz.prog.info? 108).map (fun i=>(i.zero,i.size,i.bytes))=some (some (.agg #[.int .i64 0,.int .i64 0]),2,16):=Z15
theorem cloneJ (A:Option Addr) (c:Nat) (l:List S108) (w:World) (hr:Kd.C k108 w A l.length l) (hl:l.length≤1000) :
  Calls Tryz.prog 159 #[.slice A l.length c] w fun e w'=>∃ A' c',e=.returned (.slice A' l.length c')/\Kd.C k108 w' A' l.length l/\Below w.heap.size w w':=by
 have HR:=As.mk hr
 clear hr
 have q22:∀ (w:World) (a:Option Addr) (n c n' c':Nat),(binOp .eql 24 (.slice a n c) (.slice none n' c')).run Tryz.prog w=.ok (.bool a.isNone) w:=fun w a n c n' c'=>Lib.run_eql_slice_nil w _ _ a n c n' c' Tryz.underlying24
 cases A with
 | none =>
  have h0:l.length=0:=by
   rcases Nat.eq_zero_or_pos l.length with h|h
   ·exact h
   ·obtain⟨ad,e,_⟩:=HR.out.2.2 h;cases e
  obtain rfl:l=[]:=List.eq_nil_of_length_eq_zero h0
  go_enter Tryz.func159,Tryz.ntmps159
  go_wp2
  go_ret
  exact⟨none,0,rfl,HR.out,Below.refl _ _⟩
 | some ad =>
  go_enter Tryz.func159,Tryz.ntmps159
  go_wp2_with ((with_reducible refine gate_builtin (b:=.append) (xs:=#[.tmp 5,.tmp 6]) rfl ?_);at_builtin;refine Kd.R_append_rows k108 (Rr:=(k108).K w) (w0:=w) w.heap.size rfl (.tmp 5) (.tmp 6) 24 108 (.agg #[.int .i64 0,.int .i64 0]) 16 rfl Tryz.underlying24 infoJ rfl (Z31) (Z1) (.slice (some ⟨w.heap.size,0,none⟩) 0 0) [] l (some ad) l.length c (fun _=>True) (fun _=>False) (by rfl) (by rfl) ?q1 ?q2 ?q3 (fun _ hk=>hk.elim) (fun _ _=>trivial) ?q4 ?q5 ?q6 ?_)
  case q1=>exact⟨fun _ _=>trivial,[],World.ownsRow_made w #[] 0 (Nat.le_refl _) (Nat.zero_le _) (by simp),Reps.none _ _⟩
  case q2=>exact HR.out.imp_ (below_alloc (Below.refl _ _) _) (fun _ _ h=>h)
  case q3=>intro x cs hk;obtain rfl:=k108_open hk;exact k108_mkM _ _ _ x
  case q4=>exact below_alloc (Below.refl _ _) _
  case q5=>simp
  case q6=>simp;omega
  intro v1 w1 ho hb hg hat
  obtain⟨A1,c1,rfl,hc1,hr1⟩:=Kd.R_reads ho
  have HR1:=As.mk hr1
  have HB1:=As.mk hb
  clear ho hb hg hat hr1
  go_wp2
  go_ret
  exact⟨A1,c1,rfl,HR1.out,HB1.out⟩
end Go.Proofs.YtkffhgiiejbnaaaGreat.Cl
