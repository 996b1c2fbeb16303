import Derived.OrdersIn
import Derived.Test.YtkffhgiiejbnaaaGreatQRng
import Derived.Test.YtkffhgiiejbnaaaGreatQHp
import Derived.Test.YtkffhgiiejbnaaaGreatQEncD
set_option linter.unusedVariables false
set_option linter.unusedSimpArgs false
namespace Go.Proofs.YtkffhgiiejbnaaaGreat.Rg
open Go.RowKit Go.Shelf Go.Proofs.YtkffhgiiejbnaaaGreatW.PrintWords Go.Proofs.YtkffhgiiejbnaaaGreatW.PrintLast Go.Proofs.YtkffhgiiejbnaaaGreatW.PrintMore Go.Proofs.YtkffhgiiejbnaaaGreat.Aid
set_option linter.unusedVariables false
set_option linter.unusedSimpArgs false
def noDefer (ops : Array Oper) : Bool := ops.all fun o => match o.op with | .defer _ => false | _ => true
theorem noDefer_spec {ops : Array Oper} (h : noDefer ops = true) (j : Nat) (o : Oper) (ho : ops[j]? = some o) (c : Call) : o.op ≠ .defer c := by
  intro heq
  have := Array.all_eq_true_iff_forall_mem.1 h o (Array.mem_of_getElem? ho)
  simp [heq] at this
theorem rows_wide {l n : Nat} {P : Program} {row : String} {args : Array Value} {w : World} {R : Value → World → Prop} (h : Rows P row args w R) : RowsIn (Fence.wide.inRound l) n P row args w R :=
  fun c cs _ => let ⟨v, w', r, s⟩ := h c cs; ⟨v, w', r, stepsIn_wide.2 s⟩
theorem calls_wide {l n : Nat} {P : Program} {f : FuncId} {args : Array Value} {w : World} {R : Ending → World → Prop} (h : Calls P f args w R) : CallsIn (Fence.wide.inRound l) n P f args w R :=
  CallsIn.inRound l (callsIn_wide.2 h)
theorem no_depth (l n : Nat) : (Fence.wide.inRound l).depth.isSome = true → 1 ≤ n := fun h => by cases h
theorem op_in {l n : Nat} {P : Program} {o : Oper} {a : Act} {w : World} {K : Act → World → Prop} {Q : Exit → Act → World → Prop} (hd : ∀ c, o.op ≠ .defer c) (h : o.wp P a w K Q) : o.wpIn (Fence.wide.inRound l) n P a w K Q := by
  refine ⟨fun _ _ => trivial, ?_⟩
  rw [Oper.semAt_eq _ _ _ hd]
  unfold Oper.wp at h
  generalize (execOp a.eval o).run P w = r at *
  cases r with
  | ok x w' =>
    cases x <;> simp only [Oper.upon, Oper.uponIn] at h ⊢ <;>
      first
        | exact h
        | exact ⟨no_depth l n, (calls_wide h).mono (fun e w'' he => by cases e <;> exact he)⟩
        | exact ⟨no_depth l n, rows_wide h⟩
  | halt x w' => cases x <;> simp only [Oper.upon, Oper.uponIn] at h ⊢ <;> exact h
theorem wpOp_in {l n : Nat} {P : Program} {ops : Array Oper} {i : Nat} {a : Act} {w : World} {K K' : Act → World → Prop} {Q : Exit → Act → World → Prop} (hd : noDefer ops = true) (hQ : ¬ LetsOut Q) (hK : ∀ a w, K a w → K' a w)
    (h : wpOp P ops Q i K a w) : wpOpIn (Fence.wide.inRound l) n P ops Q i K' a w := by
  unfold wpOp at h
  unfold wpOpIn
  cases ho : ops[i]? with
  | none => simp only [ho] at h ⊢; exact hK _ _ h
  | some o =>
    simp only [ho] at h ⊢
    split at h
    · rename_i hw
      rw [if_pos hw]
      rcases h with h | ⟨_, h⟩
      · exact Oper.wpIn_mono hK (op_in (noDefer_spec hd i o ho) h)
      · exact absurd h hQ
    · rename_i hw
      rw [if_neg hw]
      exact ⟨fun _ _ => trivial, hK _ _ h⟩
theorem any_in {l n : Nat} {P : Program} {md : Region.Mode} {ops : Array Oper} {Q : Exit → Act → World → Prop} (hd : noDefer ops = true) (hQ : ¬ LetsOut Q) :
    ∀ (fuel : Nat) (listed : Array Bool) (a : Act) (w : World), wpAny P md ops Q fuel listed a w → wpAnyIn (Fence.wide.inRound l) n P md ops Q fuel listed a w
  | 0, _, _, _, h => h
  | fuel + 1, _, _, _, h => ⟨h.1, fun i hi => wpOp_in hd hQ (fun a w => any_in hd hQ fuel _ a w) (h.2 i hi)⟩
theorem startR_ {rl rn : Nat} {P : Program} {ops : Array Oper} {Q : Exit → Act → World → Prop} {S : World → Prop} {ds : List Nat} {id n : Nat} {a : Act} {w : World} (hd : noDefer ops = true) (hQ : ¬ LetsOut Q) (l : Array Bool) (hm : P.follows .mixedOrders = true) (hn : ops.size = n) (hl : Array.replicate n false = l) (hS : S w.drew)
    (h : S w.drew → wpAnyLast P .any ops Q S ds n l a w.drew) : (Code.region id ops true).wpIn (Fence.wide.inRound rl) rn P Q a w := by
  subst hn
  subst hl
  exact wpIn_region_any hm (any_in hd hQ _ _ _ _ (wpAny_of_last _ _ _ _ (h hS)))
end Go.Proofs.YtkffhgiiejbnaaaGreat.Rg
namespace Go.Proofs.YtkffhgiiejbnaaaGreat.En
open Go.Shelf Go.RowKit Go.Proofs.YtkffhgiiejbnaaaGreatW.PrintWords Go.Proofs.YtkffhgiiejbnaaaGreatW.PrintLast Go.Proofs.YtkffhgiiejbnaaaGreatW.PrintMore Go.Proofs.YtkffhgiiejbnaaaGreat.Rf Go.Proofs.YtkffhgiiejbnaaaGreat.Aid Go.Proofs.YtkffhgiiejbnaaaGreat.Mp Go.Proofs.YtkffhgiiejbnaaaGreat.Hp Go.Proofs.YtkffhgiiejbnaaaGreat.Bn Go.Proofs.YtkffhgiiejbnaaaGreat.Tk Go.Proofs.YtkffhgiiejbnaaaGreat.Vc Go.Proofs.YtkffhgiiejbnaaaGreat.Rg
set_option linter.unusedVariables false
set_option linter.unusedSimpArgs false
set_option maxHeartbeats 400000
attribute [local go_sem] Oper.semAt_some
def tokP (s : Sp) (l : List (Option Addr × List Int)) : List Int := l.flatMap (fun x => pieceT s x.2)
theorem tokP_snoc (s : Sp) (l : List (Option Addr × List Int)) (x : Option Addr × List Int) : tokP s (l ++ [x]) = tokP s l ++ pieceT s x.2 := by simp [tokP]
def TokI (w0 : World) (s : Sp) (v : Nat) (pre : List (Option Addr × List Int)) (W : World) : Prop :=
  (∃ u, W.heap[w0.heap.size + 1]? = some (.cells #[u] 41 (0, 0)) ∧ Kd.R (Kd.int .i64) 3 W (w0.heap.size + 4) (fun _ => True) u (tokP s pre)) ∧ W.heap[w0.heap.size]? = some (.cells #[.pointer (some ⟨v, 0, none⟩)] 30 (0, 0)) ∧ Below w0.heap.size w0 W ∧ w0.heap.size + 4 ≤ W.heap.size
theorem tokI_bears (w0 : World) (s : Sp) (v : Nat) : Bears (w0.heap.size + 4) (w0.heap.size + 3) (TokI w0 s v) := by
  rintro pre W W' row ⟨⟨u, h1, h2⟩, h3, h4, h5⟩ hg hr
  have hne : ∀ k, k < w0.heap.size + 3 → some k ≠ row := fun k hk e => by rcases hr k e.symm with h | ⟨h, _⟩ <;> omega
  refine ⟨⟨u, (hg.block _ (blk_lt h1) (hne _ (by omega))).trans h1, ?_⟩, (hg.block _ (blk_lt h3) (hne _ (by omega))).trans h3, h4.grown hg (by omega) (fun k e => by rcases hr k e with h | ⟨h, _⟩ <;> omega), by have := hg.size; omega⟩
  refine Kd.R_mono (Kd.R_move (Kd.R_bound h2) (fun k hk => hg.block k hk.2.2.1 (fun e => ?_))) (fun _ _ => trivial)
  rcases hr k e.symm with h | ⟨_, o, ho, hc⟩
  · have := hk.2.1; omega
  · obtain ⟨q, hq, cells, hcc⟩ := hk.2.2.2
    rw [hcc] at ho
    injection ho with ho
    subst ho
    cases hc
theorem four_new (w : World) (a b c d : Obj) : ((((w.alloc a).alloc b).alloc c).alloc d).heap[w.heap.size]? = some a ∧ ((((w.alloc a).alloc b).alloc c).alloc d).heap[w.heap.size + 1]? = some b ∧ ((((w.alloc a).alloc b).alloc c).alloc d).heap[w.heap.size + 2]? = some c ∧ ((((w.alloc a).alloc b).alloc c).alloc d).heap[w.heap.size + 3]? = some d ∧ ((((w.alloc a).alloc b).alloc c).alloc d).heap.size = w.heap.size + 4 := by
  have h : ((((w.alloc a).alloc b).alloc c).alloc d).heap = (((w.heap.push a).push b).push c).push d := rfl
  rw [h]
  refine ⟨?_, ?_, ?_, ?_, by simp⟩
  · rw [Array.getElem?_push, if_neg (by simp; omega), Array.getElem?_push, if_neg (by simp; omega), Array.getElem?_push, if_neg (by simp), Array.getElem?_push, if_pos rfl]
  · rw [Array.getElem?_push, if_neg (by simp), Array.getElem?_push, if_neg (by simp), Array.getElem?_push, if_pos (by simp)]
  · rw [Array.getElem?_push, if_neg (by simp), Array.getElem?_push, if_pos (by simp)]
  · rw [Array.getElem?_push, if_pos (by simp)]
theorem tokP_pre {s : Sp} {pre PS : List (Option Addr × List Int)} (h : pre <+: PS) : (tokP s pre).length ≤ (tokP s PS).length := by
  obtain ⟨t, rfl⟩ := h
  simp [tokP]
theorem tokP_len (s : Sp) : ∀ (f : Nat) (A : Option Addr) (c : Nat) (xs : List Int), (tokP s (pcsF s f A c xs)).length ≤ xs.length
  | 0, A, c, xs => by simp [pcsF, tokP]
  | f + 1, A, c, xs => by
    by_cases h0 : xs = []
    · subst h0; rw [pcsF_nil]; simp [tokP]
    · rw [pcsF_cons h0]
      have h1 := tokP_len s f (if c = cutN s xs then A else A.map (·.add (cutN s xs))) (c - cutN s xs) (xs.drop (cutN s xs))
      have h2 := pieceT_len s (xs.take (cutN s xs))
      unfold tokP at h1 ⊢
      rw [List.flatMap_cons, List.length_append]
      rw [List.length_drop] at h1
      rw [List.length_take] at h2
      have := cutN_le s xs
      simp only at h2 ⊢
      omega
theorem keeps_below {n : Nat} {W W' : World} (h : Below n W W') (hn : W.heap.size ≤ n) : KeepsOthers W W' := ⟨h.size, fun k o hk _ => (h.block k (Nat.lt_of_lt_of_le (blk_lt hk) hn)).trans hk⟩
theorem keeps_grow {W W' : World} {b : Nat} {ok : Nat → Prop} {u : Value} {l : List Int} (hg : W.grownBy W' u.ownBlock) (hu : Kd.R (Kd.int .i64) 3 W b ok u l) : KeepsOthers W W' :=
  KeepsOthers.of_grownBy hg fun j o e hj => by
    obtain ⟨_, _, _, q, hq, cells, hcc⟩ := (Kd.R_bound hu).1 j e
    rw [hcc] at hj
    injection hj with hj
    subst hj
    rfl
set_option maxRecDepth 100000 in
set_option maxHeartbeats 1000000 in
theorem tokens_any {w0 : World} {v : Nat} {s : Sp} (hv : VocAt w0 v s) (hs : SpOk s) {A : Option Addr} {c : Nat} {xs : List Int} (hr : Kd.C (Kd.int .i64) w0 A xs.length xs) (hc : xs.length ≤ c) (hri : ∀ x ∈ xs, rightP s x = true) (hl : xs.length ≤ 200000000) :
    Calls Tryz.prog 61 #[.pointer (some ⟨v, 0, none⟩), .slice A xs.length c] w0 fun e w' => ∃ sv, e = .returned sv ∧ Kd.R (Kd.int .i64) 3 w' w0.heap.size (fun _ => True) sv (tokP s (pcsF s xs.length A c xs)) ∧ Below w0.heap.size w0 w' := by
  refine (callsIn_wide (n := 4)).1 ?_
  refine callsIn_of_wp_marks Tryz.func61 rfl trivial ?_ rfl
  simp only [Tryz.ntmps61, List.size_toArray, List.length_cons, List.length_nil, Nat.reduceAdd, Nat.reduceSub, Array.replicate_succ, Array.replicate_zero, List.push_toArray, List.append_toArray, List.nil_append, List.cons_append]
  gi_wp2_with (refine ⟨trivial, ?_⟩; gi_at_call 57; refine (callsIn_wide.2 (pieces_any v A xs.length c _)).mono ?_; rintro e w1 ⟨rfl, rfl⟩)
  have HN := As.mk (four_new w0 (.cells #[.pointer (some ⟨v, 0, none⟩)] 30 (0, 0)) (.cells #[.slice none 0 0] 41 (0, 0)) (.cells #[.pointer (some ⟨v, 0, none⟩)] 30 (0, 0)) (.cells #[.slice A xs.length c] 41 (0, 0)))
  have HB := As.mk (below_alloc (below_alloc (below_alloc (below_alloc (Below.refl w0.heap.size w0) (.cells #[.pointer (some ⟨v, 0, none⟩)] 30)) (.cells #[.slice none 0 0] 41)) (.cells #[.pointer (some ⟨v, 0, none⟩)] 30)) (.cells #[.slice A xs.length c] 41))
  generalize ((((w0.alloc (.cells #[.pointer (some ⟨v, 0, none⟩)] 30)).alloc (.cells #[.slice none 0 0] 41)).alloc (.cells #[.pointer (some ⟨v, 0, none⟩)] 30)).alloc (.cells #[.slice A xs.length c] 41)) = w at HN HB ⊢
  obtain ⟨hn0, hn1, hn2, hn3, hsz⟩ := HN.out
  have hB := HB.out
  have hI0 : TokI w0 s v [] w := ⟨⟨_, hn1, Kd.R_nil _ _ _ _ _⟩, hn0, hB, by omega⟩
  have hbe : Bears w.heap.size (w0.heap.size + 3) (TokI w0 s v) := by rw [hsz]; exact tokI_bears w0 s v
  have hit := pieces_yields hs hv hB (b := w0.heap.size + 3) (b2 := w0.heap.size + 2) (by omega) (by omega) (by omega) hr hc hri hl hn3 hn2
  have HRD := As.mk (pcsF_read (s := s) xs.length A c xs hr hc)
  have HOK := As.mk (pcsF_ok (s := s) xs.length A c xs hri)
  have HTL := As.mk (show (tokP s (pcsF s xs.length A c xs)).length ≤ 200000000 from Nat.le_trans (tokP_len s _ _ _ _) hl)
  have HL := As.mk hl
  generalize hPS : pcsF s xs.length A c xs = PS at *
  have HPS := As.mk hPS
  clear hPS
  have HV := As.mk hv
  have HSZ := As.mk hsz
  clear hr hc hri hl hv hn0 hn1 hn2 hn3 hB HB HN
  refine range_all (gf := 92) rfl (enters_of Tryz.func92 (by kernel_rfl) rfl) (encs := encP) (fun _ => rfl) PS w0.heap.size (w0.heap.size + 3) (w0.heap.size + 2) (by omega) (by omega) (by omega) hit (TokI w0 s v) hbe hI0
    (fun x => { tmps := #[.pointer (some ⟨v, 0, none⟩), .slice A xs.length c, .pointer (some ⟨w0.heap.size, 0, none⟩), undef, .slice none 0 0, .pointer (some ⟨w0.heap.size + 1, 0, none⟩), .slice x.1 x.2.length x.2.length, .pointer (some ⟨v, 0, none⟩), .slice A xs.length c, .func (.func 92) #[] #[.pointer (some ⟨w0.heap.size + 1 + 1 + 1, 0, none⟩), .pointer (some ⟨w0.heap.size + 1 + 1, 0, none⟩)], .slice x.1 x.2.length x.2.length, undef, undef, undef, undef, undef, undef], defers := [] }) ?assign ?body ?done
  case assign =>
    intro l x W K hK
    have e : (#[10] : Array Tmp).zip (encP x) = #[(10, .slice x.1 x.2.length x.2.length)] := by simp [encP]
    rw [e]
    gi_wp2
    exact hK
  case body =>
    rintro l pre ⟨pa, p⟩ W ⟨⟨u, h1, hu⟩, h3, hB, hS⟩ hpx
    have hmem : (pa, p) ∈ PS := hpx.subset (by simp)
    have HHL := As.mk (Nat.le_trans (tokP_pre (s := s) hpx) HTL.out)
    rw [tokP_snoc] at HHL
    have HP := As.mk (HRD.out _ hmem)
    have HPK := As.mk (HOK.out _ hmem)
    have HU := As.mk hu
    have HB := As.mk hB
    have HZ := As.mk hS
    have H1 := As.mk h1
    have H3 := As.mk h3
    clear hu hB hS hpx hmem h1 h3
    refine wpIn_block ?_
    dsimp only at HP HPK HHL ⊢
    refine startR_ (n := 6) (S := fun w' => Below (w0.heap.size + 4) W w') (ds := [5]) (by kernel_rfl) (by rintro ⟨_, _, h⟩; exact nomatch (show Exit.outgrown = Exit.normal ∧ _ from h).1) #[false, false, false, false, false, false] (by kernel_rfl) rfl rfl (below_drew1 (Below.refl _ _)) (fun hHeld => ?_)
    have HD := As.mk (below_drew1 (Below.refl W.heap.size W)); have HK := As.mk (KeepsOthers.drew W); clear hHeld; generalize W.drew = w5 at HD HK ⊢; have hHeld := HD.out.mono HZ.out
    refine pI 2 (some 13) (bs 6 4) ?_
    refine tI 0 (some 11) (bs 6 5) rfl (by intro w' hS'; have s0 := hS'; have z1 := cell_of0 ((hS'.block _ (by omega)).trans H1.out); have z3 := cell_of0 ((hS'.block _ (by omega)).trans H3.out); go_simp; with_reducible rfl) hHeld ?_
    refine tI 1 (some 12) (bs 6 7) rfl (by intro w' hS'; have s0 := hS'; have z1 := cell_of0 ((hS'.block _ (by omega)).trans H1.out); have z3 := cell_of0 ((hS'.block _ (by omega)).trans H3.out); go_simp; with_reducible rfl) hHeld ?_
    refine one_ (i := 3) (N := some 14) (bs 6 15) rfl rfl (by kernel_rfl) (by decide) (fun K hK => ?_)
    refine goes_ Tryz.func94 (by kernel_rfl) rfl #[.pointer (some ⟨v, 0, none⟩), .slice pa p.length p.length] (by rfl) rfl rfl (by simp [Act.eval]) ?_
    have HB5 := As.mk (HB.out.trans (HD.out.mono HB.out.size))
    refine (piece_any (HV.out.below HB5.out) (Kd.C_below HP.out.1 HB5.out) HPK.out (by have h1 := HP.out.2.2.1; have h2 := HL.out; omega)).mono ?_
    rintro e w6 ⟨sv, rfl, hr6, hb6⟩
    have HR6 := As.mk hr6
    have HB6 := As.mk hb6
    have HD6 := As.mk (HD.out.trans (hb6.mono HD.out.size))
    have HK6 := As.mk (HK.out.trans (keeps_below hb6 (Nat.le_refl _)))
    clear hr6 hb6
    obtain ⟨A6, c6, rfl, hc6, hC6⟩ := Kd.R_reads HR6.out
    refine ⟨_, rfl, ?_⟩
    refine hK.out _ _ (HD6.out.mono HZ.out) (fun _ => ?_)
    clear hK K
    refine nI ?_
    refine one_ (i := 4) (N := some 15) (bs 6 31) rfl rfl (by kernel_rfl) (by decide) (fun K hK => ?_)
    refine Kd.R_append_rows_step (Kd.int .i64) (Rr := (Kd.int .i64).K w6) (w0 := w6) (w0.heap.size + 4) (by rfl) (.tmp 11) (.tmp 14) 41 3 (.int .i64 0) 8 rfl Tryz.underlying41 info3 rfl (by decide) (by omega) u (tokP s pre) (pieceT s p) A6 (pieceT s p).length c6 (fun _ => True) (fun _ => False) (by rfl) (by rfl) (Kd.R_below HU.out HD6.out) hC6 (fun x cs hk => hk) (fun _ hk => hk.elim) (fun _ _ => trivial) (Below.refl _ _) (Nat.le_trans HZ.out HD6.out.size) (by have h1 := HHL.out; rw [List.length_append] at h1; omega) ?_
    intro u7 w7 ho hb hg hat
    obtain ⟨A7, c7, rfl, hc7, hC7⟩ := Kd.R_reads ho
    clear hc7 hC7
    have HO7 := As.mk ho
    have HD7 := As.mk ((HD6.out.mono HZ.out).trans hb)
    have HK7 := As.mk (HK6.out.trans (keeps_grow hg (Kd.R_below HU.out HD6.out)))
    clear ho hb hg hat
    refine hK.out _ _ HD7.out (fun _ => ?_)
    clear hK K
    refine nI ?_
    refine last_ (i := 5) (N := none) (bs 6 63) rfl rfl (by kernel_rfl) (by decide) (fun K hK => ?_)
    have z1 := cell_of0 ((HD7.out.block _ (by omega)).trans H1.out)
    have z2 := frozen_of ((HD7.out.block _ (by omega)).trans H1.out) 0
    refine skip_ (w1 := w7.setCell ⟨w0.heap.size + 1, 0, none⟩ (.slice A7 (tokP s pre ++ pieceT s p).length c7)) (by rfl) rfl ?_ ?_
    · first | (go_simp; done) | (go_simp; rfl)
    refine hK.out _ _ ?_
    clear hK K
    refine done_ (by kernel_rfl) ?_
    have hz := HZ.out
    have hB7 := HD7.out.mono (show w0.heap.size ≤ w0.heap.size + 4 by omega)
    have hne : ∀ k, k ≠ w0.heap.size + 1 → (w7.setCell ⟨w0.heap.size + 1, 0, none⟩ (.slice A7 (tokP s pre ++ pieceT s p).length c7)).heap[k]? = w7.heap[k]? := fun k hk => Below.heap_setCell w7 ⟨w0.heap.size + 1, 0, none⟩ _ k hk
    have h17 := (HD7.out.block _ (show w0.heap.size + 1 < w0.heap.size + 4 by omega)).trans H1.out
    have hS := (Below.refl w0.heap.size w7).setCell (p := ⟨w0.heap.size + 1, 0, none⟩) (show w0.heap.size ≤ w0.heap.size + 1 by omega) (.slice A7 (tokP s pre ++ pieceT s p).length c7)
    refine ⟨rfl, HK7.out.trans (KeepsOthers.setCell _ _ _), ⟨hB7.trans hS, ?_, ?_⟩, ⟨_, blk_put h17 0 _ rfl, ?_⟩, ?_, (HB.out.trans hB7).trans hS, ?_⟩
    · exact (hne _ (by omega)).trans (HD7.out.block _ (by omega))
    · exact (hne _ (by omega)).trans (HD7.out.block _ (by omega))
    · rw [tokP_snoc]
      exact Kd.R_set HO7.out h17 (by decide) 0 _
    · exact ((hne _ (by omega)).trans (HD7.out.block _ (by omega))).trans H3.out
    · exact Nat.le_trans hz (Nat.le_trans HD7.out.size hS.size)
  case done =>
    intro D W hD hI hd
    obtain ⟨⟨u, h1, hu⟩, _, _, hz⟩ := id hI
    have z1 := cell_of0 h1
    gi_wp2
    refine ⟨by simp, .inl ⟨_, _, rfl, run_takeDeferred hd, ?_⟩⟩
    have hI2 := tokI_bears w0 s v PS W (W.putObj D (.deferred none)) (some D) hI (put_grown W D _) (fun r e => by cases e; exact .inr ⟨by omega, _, hd, rfl⟩)
    obtain ⟨⟨u2, g1, g2⟩, _, g4, _⟩ := hI2
    have hu2 : u2 = u := by
      have := g1.symm.trans ((World.putObj_heap_other (show w0.heap.size + 1 ≠ D by omega)).trans h1)
      injection this with this
      injection this with this
      injection this with this
      injection this with this
    subst hu2
    exact ⟨_, results_tmp rfl _ _ _, u2, rfl, by rw [HPS.out]; exact Kd.R_lower g2 (by omega), g4⟩
end Go.Proofs.YtkffhgiiejbnaaaGreat.En
