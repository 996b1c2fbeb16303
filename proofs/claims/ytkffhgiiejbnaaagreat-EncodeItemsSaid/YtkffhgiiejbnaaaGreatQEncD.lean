import Derived.Sort.LoopGhostIn
import Derived.Test.YtkffhgiiejbnaaaGreatQEncB
import Derived.Test.YtkffhgiiejbnaaaGreatQRng
set_option linter.unusedVariables false
set_option linter.unusedSimpArgs false
namespace Go.Proofs.YtkffhgiiejbnaaaGreat.En
open Go.Shelf Go.RowKit Go.Proofs.YtkffhgiiejbnaaaGreatW.PrintWords Go.Proofs.YtkffhgiiejbnaaaGreatW.PrintLast Go.Proofs.YtkffhgiiejbnaaaGreatW.PrintMore Go.Proofs.YtkffhgiiejbnaaaGreat.Rf Go.Proofs.YtkffhgiiejbnaaaGreat.Aid Go.Proofs.YtkffhgiiejbnaaaGreat.Mp Go.Proofs.YtkffhgiiejbnaaaGreat.Hp Go.Proofs.YtkffhgiiejbnaaaGreat.Bn Go.Proofs.YtkffhgiiejbnaaaGreat.Tk Go.Proofs.YtkffhgiiejbnaaaGreat.Vc Go.Proofs.YtkffhgiiejbnaaaGreat.Rg
set_option linter.unusedVariables false
set_option linter.unusedSimpArgs false
set_option maxHeartbeats 400000
attribute [local go_sem] Oper.semAt_some
def pcsF (s : Sp) : Nat → Option Addr → Nat → List Int → List (Option Addr × List Int)
  | 0, _, _, _ => []
  | f + 1, A, c, xs => if xs = [] then [] else (A, xs.take (cutN s xs)) :: pcsF s f (if c = cutN s xs then A else A.map (·.add (cutN s xs))) (c - cutN s xs) (xs.drop (cutN s xs))
theorem pcsF_nil (s : Sp) (f : Nat) (A : Option Addr) (c : Nat) : pcsF s f A c [] = [] := by cases f with
  | zero => rfl
  | succ f => unfold pcsF; rw [if_pos rfl]
theorem pcsF_cons {s : Sp} {f : Nat} {A : Option Addr} {c : Nat} {xs : List Int} (h : xs ≠ []) : pcsF s (f + 1) A c xs = (A, xs.take (cutN s xs)) :: pcsF s f (if c = cutN s xs then A else A.map (·.add (cutN s xs))) (c - cutN s xs) (xs.drop (cutN s xs)) := by
  conv => lhs; unfold pcsF
  rw [if_neg h]
theorem cell_of0 {w : World} {p t : Nat} {v : Value} (h : w.heap[p]? = some (.cells #[v] t (0, 0))) : w.cell? ⟨p, 0, none⟩ = some v := by simp only [World.cell?, h]; rfl
theorem pcsF_fuel {s : Sp} : ∀ (f g : Nat) (A : Option Addr) (c : Nat) (xs : List Int), xs.length ≤ f → xs.length ≤ g → pcsF s f A c xs = pcsF s g A c xs
  | 0, g, A, c, xs, h1, h2 => by
    obtain rfl : xs = [] := List.eq_nil_of_length_eq_zero (by omega)
    rw [pcsF_nil, pcsF_nil]
  | f + 1, 0, A, c, xs, h1, h2 => by
    obtain rfl : xs = [] := List.eq_nil_of_length_eq_zero (by omega)
    rw [pcsF_nil, pcsF_nil]
  | f + 1, g + 1, A, c, xs, h1, h2 => by
    by_cases h0 : xs = []
    · subst h0; rw [pcsF_nil, pcsF_nil]
    · have hp := cutN_pos s h0
      have hl := List.length_pos_iff.2 h0
      rw [pcsF_cons h0, pcsF_cons h0, pcsF_fuel f g _ _ _ (by rw [List.length_drop]; omega) (by rw [List.length_drop]; omega)]
def encP (x : Option Addr × List Int) : Array Value := #[.slice x.1 x.2.length x.2.length]
theorem pcsF_read {s : Sp} {w : World} : ∀ (f : Nat) (A : Option Addr) (c : Nat) (xs : List Int), Kd.C (Kd.int .i64) w A xs.length xs → xs.length ≤ c → ∀ x ∈ pcsF s f A c xs, Kd.C (Kd.int .i64) w x.1 x.2.length x.2 ∧ x.2 ≠ [] ∧ x.2.length ≤ xs.length ∧ ∀ y ∈ x.2, y ∈ xs
  | 0, A, c, xs, h, hc, x, hx => by cases hx
  | f + 1, A, c, xs, h, hc, x, hx => by
    by_cases h0 : xs = []
    · subst h0; rw [pcsF_nil] at hx; cases hx
    · rw [pcsF_cons h0] at hx
      have hle := cutN_le s xs
      have hp := cutN_pos s h0
      rcases List.mem_cons.1 hx with e | hx
      · subst e
        refine ⟨Kd.C_take h hle, fun e => ?_, by simp only [List.length_take]; omega, fun y hy => List.mem_of_mem_take hy⟩
        have := congrArg List.length e
        rw [List.length_take] at this
        have h1 := List.length_pos_iff.2 h0
        simp only [List.length_nil] at this
        omega
      · obtain ⟨q1, q2, q3, q4⟩ := pcsF_read f _ _ (xs.drop (cutN s xs)) (by have := Kd.C_drop h hle hc; rw [show (Kd.int .i64).sz = 1 from rfl] at this; simp only [Nat.mul_one] at this; exact this) (by rw [List.length_drop]; omega) x hx
        exact ⟨q1, q2, by rw [List.length_drop] at q3; omega, fun y hy => List.mem_of_mem_drop (q4 y hy)⟩
theorem set_grown (W : World) (b : Nat) (u : Value) : W.grownBy (W.setCell ⟨b, 0, none⟩ u) (some b) := ⟨rfl, rfl, rfl, by simp [World.setCell], fun k hk hne => Below.heap_setCell W ⟨b, 0, none⟩ u k (fun e => hne (by rw [e]))⟩
theorem pieces_any (v : Nat) (A : Option Addr) (n c : Nat) (w : World) : Calls Tryz.prog 57 #[.pointer (some ⟨v, 0, none⟩), .slice A n c] w fun e w' => e = .returned (.func (.func 92) #[] #[.pointer (some ⟨w.heap.size + 1, 0, none⟩), .pointer (some ⟨w.heap.size, 0, none⟩)]) ∧ (w.alloc (.cells #[.pointer (some ⟨v, 0, none⟩)] 30)).alloc (.cells #[.slice A n c] 41) = w' := by
  go_enter Tryz.func57, Tryz.ntmps57
  go_wp2
  go_ret
  exact ⟨rfl, rfl⟩
theorem elem_int : Tryz.prog.elem 41 = 3 := by kernel_rfl
theorem under_ints : Tryz.prog.underlying 41 = some (.slice (Tryz.prog.elem 41)) := by rw [elem_int]; exact Tryz.underlying41
set_option maxRecDepth 100000 in
theorem size_int (W : World) : (sizeOf (Tryz.prog.elem 41)).run Tryz.prog W = .ok 1 W := by
  rw [elem_int]
  obtain ⟨i, hi, hsz⟩ := Option.map_eq_some_iff.1 Ch.info_i
  injection hsz with _ hsz
  injection hsz with hsz _
  simp [sizeOf, typeInfo, hi, hsz]
theorem slice_to3 {A : Option Addr} {n c m : Nat} (hm : m ≤ c) (W : World) : (Instr.slice 41 (.slice A n c) none (some (.int .i64 (m : Int))) (some (.int .i64 (m : Int)))).run Tryz.prog W = .ok (.slice A m m) W := by
  rw [run_slice_hm W 41 A n c under_ints .i64 .i64 (m : Int) (m : Int) (by omega) (by omega) (by omega), size_int]
  simp only [Result.andThen, sliced, Int.toNat_natCast, Nat.zero_mul, Nat.sub_zero]
  congr 2
  by_cases e : m = 0
  · rw [if_pos e]
  · rw [if_neg e]
    cases A with
    | none => rfl
    | some a => simp [Addr.add]
theorem slice_fr {A : Option Addr} {n c m : Nat} (hm : m ≤ n) (W : World) : (Instr.slice 41 (.slice A n c) (some (.int .i64 (m : Int))) none none).run Tryz.prog W = .ok (.slice (if c = m then A else A.map (·.add m)) (n - m) (c - m)) W := by
  rw [run_slice_l W 41 A n c under_ints .i64 (m : Int) (by omega) (by omega), size_int]
  simp only [Result.andThen, sliced, Int.toNat_natCast, Nat.mul_one]
set_option maxRecDepth 100000 in
set_option maxHeartbeats 1000000 in
theorem pieces_yields {w0 w : World} {v b b2 : Nat} {s : Sp} (hs : SpOk s) (hv : VocAt w0 v s) (hbw : Below w0.heap.size w0 w) (hb : w0.heap.size ≤ b) (hb2 : w0.heap.size ≤ b2) (hbb : b ≠ b2) {A : Option Addr} {c : Nat} {xs : List Int} (hr : Kd.C (Kd.int .i64) w0 A xs.length xs) (hc : xs.length ≤ c) (hri : ∀ x ∈ xs, rightP s x = true) (hl : xs.length ≤ 200000000)
    (hcb : w.heap[b]? = some (.cells #[.slice A xs.length c] 41 (0, 0))) (hcb2 : w.heap[b2]? = some (.cells #[.pointer (some ⟨v, 0, none⟩)] 30 (0, 0))) :
    Rg.Yields 3 Tryz.prog 92 #[.pointer (some ⟨b, 0, none⟩), .pointer (some ⟨b2, 0, none⟩)] encP w0.heap.size b b2 (pcsF s xs.length A c xs) w := by
  intro l W1 J hbW hJ hY h0
  have HS := As.mk hs
  have HV := As.mk hv
  have HR := As.mk hr
  have HRI := As.mk hri
  have HLN := As.mk hl
  have HB0 := As.mk (hbw.trans (hbW.mono hbw.size))
  have HC0 := As.mk ((hbW.block b (blk_lt hcb)).trans hcb)
  have HC20 := As.mk ((hbW.block b2 (blk_lt hcb2)).trans hcb2)
  have HCC := As.mk hc
  have HJ := As.mk hJ
  have HY := As.mk hY
  have H0 := As.mk h0
  clear hs hv hr hri hl hcb hcb2 hbw hbW hc hJ hY h0
  generalize hPS : pcsF s xs.length A c xs = PS at *
  have HPS := As.mk hPS
  clear hPS
  refine callsIn_of_wp Tryz.func92 rfl trivial ?_ rfl
  simp only [Tryz.ntmps92, List.size_toArray, List.length_cons, List.length_nil, Nat.reduceAdd, Nat.reduceSub, Array.replicate_succ, Array.replicate_zero, List.push_toArray, List.append_toArray, List.nil_append, List.cons_append]
  gi_wp2
  gi_loopg [] xs.length (fun f wr => ∃ (pre rest : List (Option Addr × List Int)) (A2 : Option Addr) (c2 : Nat) (ys : List Int) (W : World), As (W = wr) ∧ As (pre ++ rest = PS) ∧ As (rest = pcsF s ys.length A2 c2 ys) ∧ As (Kd.C (Kd.int .i64) w0 A2 ys.length ys) ∧ ys.length ≤ c2 ∧ As (∀ x ∈ ys, rightP s x = true) ∧ As (ys.length ≤ 200000000) ∧ As (W.heap[b]? = some (.cells #[.slice A2 ys.length c2] 41 (0, 0))) ∧ As (W.heap[b2]? = some (.cells #[.pointer (some ⟨v, 0, none⟩)] 30 (0, 0))) ∧ As (Below w0.heap.size w0 W) ∧ As (J pre W) ∧ As (ys.length ≤ f))
  case atStart => exact ⟨[], PS, A, c, xs, W1, ⟨rfl⟩, ⟨rfl⟩, ⟨HPS.out.symm⟩, HR, HCC.out, HRI, HLN, HC0, HC20, HB0, H0, ⟨Nat.le_refl _⟩⟩
  case round =>
    clear HR HRI HLN HB0 HC0 HC20 HCC H0 HPS
    obtain ⟨pre, rest, A2, c2, ys, W, HW, HPR, HRS, HR, hc2, HRI, HLN, HC, HC2, HB, HJP, HK⟩ := hrel
    have hW := HW.out
    subst hW
    clear HW
    have k1 := cell_of0 HC.out
    have k2 := cell_of0 HC2.out
    by_cases h0 : ys = []
    · subst h0
      have HE := As.mk (show J PS W by have h := HJP.out; have h2 := HPR.out; rw [HRS.out, pcsF_nil, List.append_nil] at h2; rw [← h2]; exact h)
      gi_wp2
      go_end0
      exact ⟨⟨_, rfl⟩, HE.out⟩
    · have hpos := List.length_pos_iff.2 h0
      have hposI : (0 : Int) < (ys.length : Int) := by omega
      obtain ⟨f, rfl⟩ : ∃ f, gk = f + 1 := ⟨gk - 1, by have := HK.out; omega⟩
      obtain ⟨y, hy0⟩ : ∃ y, ys.length = y + 1 := ⟨ys.length - 1, by omega⟩
      have hcons := pcsF_cons (s := s) (f := y) (A := A2) (c := c2) h0
      rw [← hy0] at hcons
      have hcl := cutN_le s ys
      have hcp := cutN_pos s h0
      have HCU := As.mk (callsIn_wide (n := 2).2 (cut_any (HV.out.below HB.out) HS.out (c := c2) (Kd.C_below HR.out HB.out) h0 HRI.out HLN.out))
      have HDR := As.mk (Kd.C_drop HR.out hcl hc2)
      rw [show (Kd.int .i64).sz = 1 from rfl] at HDR
      simp only [Nat.mul_one] at HDR
      have HDI := As.mk (fun x (hx : x ∈ ys.drop (cutN s ys)) => HRI.out x (List.mem_of_mem_drop hx))
      have HTL := As.mk (show (ys.take (cutN s ys)).length = cutN s ys by rw [List.length_take]; omega)
      have HDL := As.mk (show (ys.drop (cutN s ys)).length = ys.length - cutN s ys by rw [List.length_drop])
      have HRS2 := As.mk (HRS.out.trans hcons)
      have HY0 := As.mk hy0
      clear HRS hcons hy0 HRI
      generalize cutN s ys = q at *
      have hq := slice_to3 (A := A2) (n := ys.length) (c := c2) (m := q) (by omega)
      have hd := slice_fr (A := A2) (n := ys.length) (c := c2) (m := q) hcl
      generalize (if c2 = q then A2 else A2.map (·.add q)) = A3 at *
      generalize ys.take q = tk at *
      generalize ys.drop q = dr at *
      rw [← HDL.out] at hd
      have HPX := As.mk (show pre ++ [(A2, tk)] <+: PS from ⟨pcsF s y A3 (c2 - q) dr, by rw [List.append_assoc, ← HPR.out, HRS2.out]; rfl⟩)
      have HPR2 := As.mk (show (pre ++ [(A2, tk)]) ++ pcsF s dr.length A3 (c2 - q) dr = PS by rw [List.append_assoc, ← HPR.out, HRS2.out, pcsF_fuel y dr.length _ _ dr (by rw [HDL.out]; have := HY0.out; omega) (Nat.le_refl _)]; rfl)
      gi_wp2_with (refine ⟨trivial, ?_⟩; gi_at_call 93; refine HCU.out.mono ?_; rintro e w1 ⟨rfl, hb1⟩; have HB1 := As.mk (HB.out.trans (hb1.mono HB.out.size)); have HJ1 := As.mk (HJ.out pre W w1 none HJP.out ⟨hb1.os, hb1.tape, hb1.output, hb1.size, fun k hk _ => hb1.block k hk⟩ (fun r e => by cases e)); have HC1 := As.mk ((hb1.block b (blk_lt HC.out)).trans HC.out); have HC21 := As.mk ((hb1.block b2 (blk_lt HC2.out)).trans HC2.out); clear hb1 k1 k2; have k1 := cell_of0 HC1.out; obtain ⟨fn, tmps, assign, body, hy, hR⟩ := HY.out pre (A2, tk) w1 HJ1.out HPX.out; unfold encP at hy; dsimp only at hy; rw [HTL.out] at hy)
      refine hR.mono ?_
      rintro e W3 ⟨rfl, hJ3, hk3⟩
      have HB3 := As.mk (HB1.out.trans hk3.1)
      have HC3 := As.mk (hk3.2.1.trans HC1.out)
      have HC23 := As.mk (hk3.2.2.trans HC21.out)
      have HJ3 := As.mk hJ3
      clear hJ3 hk3 hR hy k1
      have k1 := cell_of0 HC3.out
      have z1 := blk_frozen HC3.out 0
      gi_wp2
      clear k1 z1 hq hd
      go_roundg f
      case measure => omega
      case rel => exact ⟨pre ++ [(A2, tk)], pcsF s dr.length A3 (c2 - q) dr, A3, c2 - q, dr, _, ⟨rfl⟩, HPR2, ⟨rfl⟩, HDR, by rw [HDL.out]; omega, HDI, ⟨by rw [HDL.out]; have := HLN.out; omega⟩, ⟨blk_set HC3.out 0 _⟩, ⟨(Below.heap_setCell W3 ⟨b, 0, none⟩ _ b2 (Ne.symm hbb)).trans HC23.out⟩, ⟨HB3.out.setCell (p := ⟨b, 0, none⟩) hb _⟩, ⟨HJ.out _ _ _ (some b) HJ3.out (set_grown W3 b _) (fun r e => by cases e; rfl)⟩, ⟨by rw [HDL.out]; have := HK.out; omega⟩⟩
end Go.Proofs.YtkffhgiiejbnaaaGreat.En
namespace Go.Proofs.YtkffhgiiejbnaaaGreat.En
open Go.Shelf Go.RowKit Go.Proofs.YtkffhgiiejbnaaaGreatW.PrintWords Go.Proofs.YtkffhgiiejbnaaaGreatW.PrintLast Go.Proofs.YtkffhgiiejbnaaaGreatW.PrintMore Go.Proofs.YtkffhgiiejbnaaaGreat.Rf Go.Proofs.YtkffhgiiejbnaaaGreat.Aid Go.Proofs.YtkffhgiiejbnaaaGreat.Mp Go.Proofs.YtkffhgiiejbnaaaGreat.Hp Go.Proofs.YtkffhgiiejbnaaaGreat.Bn Go.Proofs.YtkffhgiiejbnaaaGreat.Tk Go.Proofs.YtkffhgiiejbnaaaGreat.Vc Go.Proofs.YtkffhgiiejbnaaaGreat.Rg
set_option linter.unusedVariables false
set_option linter.unusedSimpArgs false
set_option maxHeartbeats 400000
def pieceT (s : Sp) : List Int → List Int
  | [] => []
  | a :: l => if a < 0 then [(Mk.hasP s.X a).1.f0] else Ch.encS (tabOf s).1 (strOfNums (a :: l))
theorem pieceT_cons (s : Sp) (a : Int) (l : List Int) : pieceT s (a :: l) = if a < 0 then [(Mk.hasP s.X a).1.f0] else Ch.encS (tabOf s).1 (strOfNums (a :: l)) := rfl
theorem pieceT_len (s : Sp) : ∀ p : List Int, (pieceT s p).length ≤ p.length
  | [] => Nat.le_refl _
  | a :: l => by
    rw [pieceT_cons]
    split
    · simp
    · have := Ch.encS_len (tabOf s).1 (strOfNums (a :: l)); rw [str_size] at this; exact this
set_option maxRecDepth 100000 in
theorem piece_neg {w : World} {v : Nat} {s : Sp} (hv : VocAt w v s) {A : Option Addr} {c : Nat} {a : Int} {l : List Int} (hr : Kd.C (Kd.int .i64) w A (a :: l).length (a :: l)) (ha : a < 0) :
    Calls Tryz.prog 94 #[.pointer (some ⟨v, 0, none⟩), .slice A (a :: l).length c] w fun e w' => ∃ sv, e = .returned sv ∧ Kd.R (Kd.int .i64) 3 w' w.heap.size (fun _ => True) sv (pieceT s (a :: l)) ∧ Below w.heap.size w w' := by
  have HV := As.mk hv
  have HR := As.mk hr
  obtain ⟨ad, rfl, z0⟩ := rd_at hr (i := 0) (a := a) rfl
  simp only [Addr.add_zero'] at z0
  have hlen : (0 : Int) < ((a :: l).length : Int) := by simp only [List.length_cons]; omega
  have hlenN : 0 < (a :: l).length := by simp
  have HE := As.mk (show pieceT s (a :: l) = [(Mk.hasP s.X a).1.f0] by rw [pieceT_cons, if_pos ha])
  have HX0 := As.mk (show (a :: l)[0]? = some a from rfl)
  rw [HE.out]
  clear hv hr
  generalize a :: l = p at *
  generalize hn : p.length = n at *
  go_enter Tryz.func94, Tryz.ntmps94
  go_wp2
  refine start_ (n := 11) (S := fun w' => Below w.heap.size w w') (ds := []) #[false, false, false, false, false, false, false, false, false, false, false] (by kernel_rfl) rfl rfl (below_drew1 (Below.refl _ _)) (fun hHeld => ?_)
  have HW9 := As.mk hHeld; clear hHeld; generalize w.drew = w9 at HW9 ⊢; have hHeld := HW9.out
  refine pI 0 (some 12) (bs 11 1) ?_
  refine pI 2 (some 14) (bs 11 5) ?_
  refine pI 3 (some 15) (bs 11 13) ?_
  refine tI 4 (some 16) (bs 11 29) rfl (by intro w' hS'; have s0 := hS'; have x0 := rd_ad (Kd.C_below HR.out hS') HX0.out; simp only [Addr.add_zero'] at x0; go_simp; with_reducible rfl) hHeld ?_
  refine one_ (i := 1) (N := some 13) (bs 11 31) rfl rfl (by kernel_rfl) (by decide) (fun K hK => ?_)
  refine goes_ Tryz.func67 (by kernel_rfl) rfl #[.pointer (some ⟨v, 0, none⟩)] (by rfl) rfl rfl (by simp [Act.eval]) ?_
  refine (marks_any (HV.out.below HW9.out)).mono ?_
  rintro e w10 ⟨pm, rfl, hm, rfl⟩
  have HM := As.mk hm
  clear hm
  refine ⟨_, rfl, ?_⟩
  refine hK.out _ _ HW9.out (fun _ => ?_)
  clear hK K
  refine nI ?_
  refine one_ (i := 5) (N := some 17) (bs 11 63) rfl rfl (by kernel_rfl) (by decide) (fun K hK => ?_)
  refine goes_ Tryz.func129 (by kernel_rfl) rfl #[.pointer (some ⟨pm, 0, none⟩), .int .i64 a] (by rfl) rfl rfl (by simp [Act.eval]) ?_
  refine (Mk.id_any HM.out a).mono ?_
  rintro e w10 ⟨rfl, hb10⟩
  have HW10 := As.mk (bt_ HW9.out hb10)
  clear hb10
  refine ⟨_, rfl, ?_⟩
  refine hK.out _ _ HW10.out (fun _ => ?_)
  clear hK K hHeld
  refine nI ?_
  refine pI 6 (some 11) (bs 11 127) ?_
  refine pI 7 (some 18) (bs 11 255) ?_
  refine pI 8 (some 19) (bs 11 511) ?_
  refine pI 9 (some 5) (bs 11 1023) ?_
  refine pI 10 (some 6) (bs 11 2047) ?_
  refine done_ (by kernel_rfl) ?_
  go_wp2
  go_ret
  exact ⟨_, rfl, Kd.R_lower (Kd.R_of_own (own_lit w10 w10.heap.size 3 .i64 [(Mk.hasP s.X a).1.f0] (Nat.le_refl _) (by simp)) (fun _ _ => trivial)) HW10.out.size, bt_ HW10.out (below_alloc (Below.refl _ _) _)⟩
set_option maxRecDepth 100000 in
theorem piece_pos {w : World} {v : Nat} {s : Sp} (hv : VocAt w v s) {A : Option Addr} {c : Nat} {a : Int} {l : List Int} (hr : Kd.C (Kd.int .i64) w A (a :: l).length (a :: l)) (hb : ∀ x ∈ a :: l, 0 ≤ x ∧ x < 256) (hl : (a :: l).length ≤ 200000000) :
    Calls Tryz.prog 94 #[.pointer (some ⟨v, 0, none⟩), .slice A (a :: l).length c] w fun e w' => ∃ sv, e = .returned sv ∧ Kd.R (Kd.int .i64) 3 w' w.heap.size (fun _ => True) sv (pieceT s (a :: l)) ∧ Below w.heap.size w w' := by
  have HV := As.mk hv
  have HR := As.mk hr
  have HBY := As.mk hb
  have HLN := As.mk hl
  obtain ⟨ad, rfl, z0⟩ := rd_at hr (i := 0) (a := a) rfl
  simp only [Addr.add_zero'] at z0
  have hlen : (0 : Int) < ((a :: l).length : Int) := by simp only [List.length_cons]; omega
  have hlenN : 0 < (a :: l).length := by simp
  have ha : 0 ≤ a := (hb a (List.mem_cons_self ..)).1
  have ha0 : ¬ a < 0 := by omega
  have HE := As.mk (show pieceT s (a :: l) = Ch.encS (tabOf s).1 (strOfNums (a :: l)) by rw [pieceT_cons, if_neg ha0])
  rw [HE.out]
  clear hv hr hb hl
  generalize a :: l = p at *
  go_enter Tryz.func94, Tryz.ntmps94
  go_wp2_with (first
    | (go_at_call 131; refine (table_any HV.out).mono ?_; rintro e w1 ⟨pt, rfl, ht, rfl⟩; have HT := As.mk ht; clear ht)
    | (go_at_call 132; refine (text_of HR.out HBY.out HLN.out).mono ?_; rintro e w2 ⟨rfl, hb2⟩; have HB2 := As.mk hb2; clear hb2)
    | (go_at_call 130; refine (Ch.encode_any (good_of s) (HT.out.below HB2.out) (strOfNums p) (by rw [str_size]; exact HLN.out)).mono ?_; rintro e w3 ⟨sv, rfl, ho, hb3⟩; have HO3 := As.mk ho; have HB3 := As.mk hb3; clear ho hb3))
  go_ret
  exact ⟨_, rfl, Kd.R_lower HO3.out HB2.out.size, bt_ HB2.out HB3.out⟩
def PieceOk (s : Sp) (p : List Int) : Prop := p ≠ [] ∧ ((∃ a, p = [a] ∧ a < 0) ∨ ∀ x ∈ p, 0 ≤ x ∧ x < 256)
theorem piece_any {w : World} {v : Nat} {s : Sp} (hv : VocAt w v s) {A : Option Addr} {c : Nat} {p : List Int} (hr : Kd.C (Kd.int .i64) w A p.length p) (hp : PieceOk s p) (hl : p.length ≤ 200000000) :
    Calls Tryz.prog 94 #[.pointer (some ⟨v, 0, none⟩), .slice A p.length c] w fun e w' => ∃ sv, e = .returned sv ∧ Kd.R (Kd.int .i64) 3 w' w.heap.size (fun _ => True) sv (pieceT s p) ∧ Below w.heap.size w w' := by
  obtain ⟨h0, ⟨a, rfl, ha⟩ | hb⟩ := hp
  · exact piece_neg hv hr ha
  · match p, h0 with
    | a :: l, _ => exact piece_pos hv hr hb hl
theorem cutN_neg {s : Sp} {a : Int} {l : List Int} (ha : a < 0) : cutN s (a :: l) = 1 := by
  cases l with
  | nil => rfl
  | cons b l => unfold cutN; rw [if_pos (.inl ha)]
theorem cutN_bytes {s : Sp} : ∀ (l : List Int) (a : Int), 0 ≤ a → ∀ x ∈ (a :: l).take (cutN s (a :: l)), 0 ≤ x
  | [], a, ha, x, hx => by
    have e : cutN s [a] = 1 := rfl
    rw [e] at hx
    simp only [List.take_succ_cons, List.take_zero, List.mem_singleton] at hx
    omega
  | b :: l, a, ha, x, hx => by
    unfold cutN at hx
    by_cases h : a < 0 ∨ b < 0 ∨ cutP s a.toNat b.toNat = true
    · rw [if_pos h] at hx
      simp only [List.take_succ_cons, List.take_zero, List.mem_singleton] at hx
      omega
    · rw [if_neg h, Nat.add_comm, List.take_succ_cons] at hx
      rcases List.mem_cons.1 hx with e | hx
      · omega
      · exact cutN_bytes l b (by have := h; omega) x hx
theorem pcsF_ok {s : Sp} : ∀ (f : Nat) (A : Option Addr) (c : Nat) (xs : List Int), (∀ x ∈ xs, rightP s x = true) → ∀ x ∈ pcsF s f A c xs, PieceOk s x.2
  | 0, A, c, xs, h, x, hx => by cases hx
  | f + 1, A, c, xs, h, x, hx => by
    by_cases h0 : xs = []
    · subst h0; rw [pcsF_nil] at hx; cases hx
    · rw [pcsF_cons h0] at hx
      rcases List.mem_cons.1 hx with e | hx
      · subst e
        match xs, h0 with
        | a :: l, _ =>
          refine ⟨fun e => ?_, ?_⟩
          · have := cutN_pos s (l := a :: l) (by simp)
            have h2 := congrArg List.length e
            rw [List.length_take] at h2
            simp only [List.length_cons, List.length_nil] at h2
            omega
          · by_cases ha : a < 0
            · left; exact ⟨a, by rw [cutN_neg ha]; rfl, ha⟩
            · right
              intro y hy
              have h1 := cutN_bytes l a (by omega) y hy
              exact ⟨h1, rightP_byte (h y (List.mem_of_mem_take hy)) h1⟩
      · exact pcsF_ok f _ _ _ (fun y hy => h y (List.mem_of_mem_drop hy)) x hx
end Go.Proofs.YtkffhgiiejbnaaaGreat.En
