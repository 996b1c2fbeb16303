import Derived.Test.YtkffhgiiejbnaaaGreatQEncA
set_option maxRecDepth 100000
set_option maxHeartbeats 400000
set_option linter.unusedVariables false
set_option linter.unusedSimpArgs false
set_option linter.unnecessarySimpa false
namespace Go.Proofs.YtkffhgiiejbnaaaGreat.En
open Go.Shelf Go.RowKit YtkffhgiiejbnaaaGreatW.PrintWords YtkffhgiiejbnaaaGreatW.PrintLast YtkffhgiiejbnaaaGreatW.PrintMore Rf Aid Mp Hp Bn Tk Vc
theorem rd_at {w : World} {A : Option Addr} {n : Nat} {xs : List Int} (h : Kd.C (Kd.int .i64) w A n xs) {i : Nat} {a : Int} (hi : xs[i]? = some a) : ∃ ad, A = some ad ∧ w.cell? (ad.add i) = some (.int .i64 a) := by
 obtain ⟨hl, hx⟩ := List.getElem?_eq_some_iff.1 hi
 obtain ⟨ad, e, hc⟩ := Kd.at_int h (i : Int) (by omega) (by have := h.1; omega)
 rw [Int.toNat_natCast, rdI hl, hx] at hc
 exact ⟨ad, e, hc⟩
theorem rd_ad {w : World} {ad : Addr} {n : Nat} {xs : List Int} (h : Kd.C (Kd.int .i64) w (some ad) n xs) {i : Nat} {a : Int} (hi : xs[i]? = some a) : w.cell? (ad.add i) = some (.int .i64 a) := by
 obtain ⟨ad', e, hc⟩ := rd_at h hi
 injection e with e
 subst e
 exact hc
theorem str_size (xs : List Int) : (strOfNums xs).size = xs.length := strOfNums_size xs
theorem info_u8 : (Tryz.prog.info? 5).map (fun i => (i.zero, i.size, i.bytes)) = some (some (.int .u8 0), 1, 1) := by kernel_rfl
theorem make_run (n : Nat) (h : n ≤ 1000000000) (W : World) : (Instr.makeSlice 109 (.int .i64 0) (.int .i64 (n : Int))).run Tryz.prog W = .ok (.slice (some ⟨W.heap.size, 0, none⟩) 0 n) (W.alloc (.cells (madeCells #[.int .u8 0] n) 5)) := by
 obtain ⟨i, hi, he⟩ := Option.map_eq_some_iff.1 info_u8
 injection he with h1 he
 injection he with h2 h3
 have := run_make (P := Tryz.prog) W 109 5 i (.int .u8 0) Tryz.underlying109 hi h1 .i64 .i64 0 (n : Int) (by omega) (by omega) (by rw [h3]; omega) (by omega)
 rw [h2, Nat.mul_one, Int.toNat_natCast] at this
 exact this
theorem make_row (n : Nat) (h : n ≤ 1000000000) (W : World) : Kd.R (Kd.int .u8) 5 (W.alloc (.cells (madeCells #[.int .u8 0] n) 5)) W.heap.size (fun _ => True) (.slice (some ⟨W.heap.size, 0, none⟩) 0 n) [] :=
 ⟨fun _ _ => trivial, [], ⟨rfl, .inr ⟨W.heap.size, n, _, rfl, Nat.le_refl _, (Go.MapKept.heap_alloc W _).1, Nat.zero_le _, by show n ≤ 9223372036854775807; omega, by show (madeCells #[.int .u8 0] n).size = n * 1; simp [madeCells], by simp⟩⟩, Reps.none _ _⟩
theorem text_of {w : World} {A : Option Addr} {c : Nat} {xs : List Int} (hr : Kd.C (Kd.int .i64) w A xs.length xs) (hb : ∀ x ∈ xs, 0 ≤ x ∧ x < 256) (hl : xs.length ≤ 200000000) :
  Calls Tryz.prog 132 #[.slice A xs.length c] w fun e w' => e = .returned (.string (strOfNums xs)) ∧ Below w.heap.size w w' := by
 have HR := As.mk hr
 have HBY := As.mk hb
 have HLN := As.mk hl
 have hmk := make_run xs.length (by omega)
 have HMR := As.mk (make_row xs.length (by omega) w)
 have HB := As.mk (below_alloc (Below.refl w.heap.size w) (.cells (madeCells #[.int .u8 0] xs.length) 5))
 clear hr hb hl
 go_enter Tryz.func132, Tryz.ntmps132
 go_wp2_with fail
 clear hmk
 generalize w.alloc (.cells (madeCells #[.int .u8 0] xs.length) 5) = w1 at HMR HB ⊢
 go_loopg [3, 11] xs.length (fun f v3 v11 w' => ∃ (i : Nat), v11 = .int .i64 (i : Int) ∧ i ≤ xs.length ∧ As (xs.length ≤ i + f) ∧ As (Kd.R (Kd.int .u8) 5 w' w.heap.size (fun _ => True) v3 (xs.take i)) ∧ As (Below w.heap.size w w'))
 case atStart => exact ⟨0, rfl, Nat.zero_le _, ⟨by omega⟩, HMR, HB⟩
 case round =>
  clear HMR HB
  obtain ⟨i, rfl, hi, HK, HO, HB⟩ := hrel
  by_cases hlt : i < xs.length
  ·obtain ⟨f, rfl⟩ : ∃ f, gk = f + 1 := ⟨gk - 1, by have := HK.out; omega⟩
   have hltI : (i : Int) < (xs.length : Int) := by omega
   have hiB : (i : Int) ≤ 200000000 := by have := HLN.out; omega
   have hx := List.getElem?_eq_getElem hlt
   have hxr := HBY.out _ (List.getElem_mem hlt)
   have HT := As.mk (show xs.take (i + 1) = xs.take i ++ [xs[i]] by rw [List.take_succ_eq_append_getElem hlt])
   have HTL := As.mk (show (xs.take i).length ≤ xs.length by rw [List.length_take]; omega)
   generalize xs[i] = a at *
   have hw : IntKind.u8.wrap a = a := by rw [IntKind.wrap_u8]; omega
   obtain ⟨ad, rfl, x0⟩ := rd_at (Kd.C_below HR.out HB.out) hx
   clear hx
   generalize hys : xs.take i = ys at *
   go_wp2_with ((with_reducible refine gate_builtin (b := .append) (xs := #[.tmp 15, .tmp 18]) rfl ?_); at_builtin; refine Kd.R_append (Kd.int .u8) (w0 := w) w.heap.size rfl (.tmp 15) (.tmp 18) 109 5 (.int .u8 0) 1 rfl Tryz.underlying109 info_u8 rfl (by decide) (by omega) _ ys a [.int .u8 a] (fun _ => True) (fun _ => False) rfl ?aX ?aP (fun _ hk => hk.elim) ?aF ?aO ?aB ?aS ?aL ?_; (case aX => first | exact rfl | (simp [Act.eval, go_sem]; done)); (case aP => exact rfl); (case aF => exact (fun _ _ => trivial)); (case aO => exact (by (with_reducible repeat (first | apply Kd.R_alloc | apply Kd.R_drewN | apply Kd.R_drew)); exact HO.out)); (case aB => exact (by repeat (first | (with_reducible first | exact HB.out | apply below_alloc | apply pw_below_drewN | apply below_drew1) | exact HB.out))); (case aS => exact (below_size (by repeat (first | (with_reducible first | exact HB.out | apply below_alloc | apply pw_below_drewN | apply below_drew1) | exact HB.out)))); (case aL => (have := HLN.out; have := HTL.out; omega)); intro v1 w1 ho hb hg hat; have HO_ := As.mk ho; have HB_ := As.mk hb; clear HO HB ho hb hg hat; have HO := HO_; have HB := HB_; clear HO_ HB_)
   go_roundg f
   case measure => omega
   case rel => exact ⟨i + 1, by go_num, by omega, ⟨by have := HK.out; omega⟩, ⟨by rw [HT.out]; exact HO.out⟩, HB⟩
  ·obtain rfl : i = xs.length := by omega
   have ho := HO.out
   rw [List.take_length] at ho
   obtain ⟨A1, c1, rfl⟩ := Kd.R_slice ho
   have hcv := Kd.C_string (src := 109) (dst := 9) (c := c1) Tryz.underlying109 Tryz.underlying5 Tryz.underlying9 (Kd.R_reads' ho).2.2
   clear ho hi HK HO
   go_wp2
   go_ret
   exact ⟨rfl, HB.out⟩
def cutN (s : Sp) : List Int → Nat
 | [] => 0
 | [_] => 1
 | a :: b :: l => if a < 0 ∨ b < 0 ∨ cutP s a.toNat b.toNat = true then 1 else 1 + cutN s (b :: l)
theorem cutN_le (s : Sp) : ∀ l : List Int, cutN s l ≤ l.length
 | [] => Nat.le_refl _
 | [_] => Nat.le_refl _
 | a :: b :: l => by
  unfold cutN
  split
  ·simp only [List.length_cons]; omega
  ·have := cutN_le s (b :: l); simp only [List.length_cons] at *; omega
theorem cutN_pos (s : Sp) {l : List Int} (h : l ≠ []) : 0 < cutN s l := by
 match l, h with
 | [_], _ => exact Nat.one_pos
 | a :: b :: l, _ => unfold cutN; split <;> omega
theorem rightP_byte {s : Sp} {a : Int} (h : rightP s a = true) (h0 : 0 ≤ a) : a < 256 := by
 unfold rightP at h
 simp only [Bool.or_eq_true, decide_eq_true_eq] at h
 omega
theorem cut_any {w : World} {v : Nat} {s : Sp} (hv : VocAt w v s) (hs : SpOk s) {A : Option Addr} {c : Nat} {xs : List Int} (hr : Kd.C (Kd.int .i64) w A xs.length xs) (hne : xs ≠ []) (hri : ∀ x ∈ xs, rightP s x = true) (hl : xs.length ≤ 200000000) :
  Calls Tryz.prog 93 #[.pointer (some ⟨v, 0, none⟩), .slice A xs.length c] w fun e w' => e = .returned (.int .i64 (cutN s xs : Int)) ∧ Below w.heap.size w w' := by
 have HR := As.mk hr
 have HV := As.mk hv
 have HS := As.mk hs
 have HRI := As.mk hri
 have HLN := As.mk hl
 have hpos : 0 < xs.length := List.length_pos_iff.2 hne
 have h0x := List.getElem?_eq_getElem hpos
 obtain ⟨ad, rfl, z0⟩ := rd_at hr h0x
 have hposI : (0 : Int) < (xs.length : Int) := by omega
 obtain ⟨R, hR⟩ : ∃ R, cutN s xs = R := ⟨_, rfl⟩
 have HF0 := As.mk (show 0 + cutN s (xs.drop 0) = R by rw [List.drop_zero, Nat.zero_add]; exact hR)
 have HRB := As.mk (show R ≤ xs.length by rw [← hR]; exact cutN_le s xs)
 have HX0 := As.mk h0x
 have z0' : w.cell? ad = some (.int .i64 xs[0]) := by simpa [Addr.add] using z0
 have HDC := As.mk (List.drop_eq_getElem_cons hpos)
 rw [hR]
 clear hr hv hs hri hl h0x hR hne z0
 generalize xs[0] = a0 at *
 by_cases hneg : a0 < 0
 ·have HE := As.mk (show R = 1 by
   have h := HF0.out
   rw [HDC.out] at h
   cases hd : xs.drop (0 + 1) with
   | nil => rw [hd] at h; have : 0 + 1 = R := h; omega
   | cons b l => rw [hd] at h; unfold cutN at h; rw [if_pos (.inl hneg)] at h; omega)
  go_enter Tryz.func93, Tryz.ntmps93
  go_wp2
  go_ret
  exact ⟨by rw [HE.out]; rfl, Below.refl _ _⟩
 ·have ha0 : ¬ a0 < 0 := hneg
  go_enter Tryz.func93, Tryz.ntmps93
  go_wp2_with fail
  go_loopg [5] xs.length (fun f v5 w' => ∃ (i : Nat) (W : World) (a : Int), v5 = .int .i64 ((i : Int) + 1) ∧ i < xs.length ∧ As (W = w') ∧ As (xs.length ≤ i + 1 + f) ∧ As (i + cutN s (xs.drop i) = R) ∧ As (xs[i]? = some a ∧ 0 ≤ a) ∧ As (Below w.heap.size w W))
  case atStart => exact ⟨0, w, a0, rfl, hpos, ⟨rfl⟩, ⟨by omega⟩, HF0, ⟨HX0.out, by omega⟩, ⟨Below.refl _ _⟩⟩
  case round =>
   clear HF0 HX0 HDC
   obtain ⟨i, W, a, rfl, hi, HW, HK, HF, HAA, HB⟩ := hrel
   have hW := HW.out
   subst hW
   clear HW
   have hiB : (i : Int) ≤ 200000000 := by have := HLN.out; omega
   have hi0 : (0 : Int) ≤ (i : Int) := by omega
   have hi01 : (0 : Int) ≤ (i : Int) + 1 := by omega
   by_cases hlt : i + 1 < xs.length
   ·obtain ⟨f, rfl⟩ : ∃ f, gk = f + 1 := ⟨gk - 1, by have := HK.out; omega⟩
    have hltI : (i : Int) + 1 < (xs.length : Int) := by omega
    have hiI : (i : Int) < (xs.length : Int) := by omega
    obtain ⟨b, hb⟩ : ∃ b, xs[i + 1]? = some b := ⟨_, List.getElem?_eq_getElem hlt⟩
    have HX := As.mk HAA.out.1
    have ha := HAA.out.2
    have HY := As.mk hb
    have HRA := As.mk (HRI.out a (List.mem_of_getElem? HAA.out.1))
    have HRBB := As.mk (HRI.out b (List.mem_of_getElem? hb))
    have HDR := As.mk (show xs.drop i = a :: b :: xs.drop (i + 1 + 1) by
     obtain ⟨g1, g2⟩ := List.getElem?_eq_some_iff.1 HAA.out.1
     obtain ⟨g3, g4⟩ := List.getElem?_eq_some_iff.1 hb
     rw [List.drop_eq_getElem_cons g1, List.drop_eq_getElem_cons g3, g2, g4])
    have HDR1 := As.mk (show xs.drop (i + 1) = b :: xs.drop (i + 1 + 1) by
     obtain ⟨g3, g4⟩ := List.getElem?_eq_some_iff.1 hb
     rw [List.drop_eq_getElem_cons g3, g4])
    clear hb
    by_cases hbn : b < 0
    ·have HE := As.mk (show R = i + 1 by have h := HF.out; rw [HDR.out] at h; unfold cutN at h; rw [if_pos (.inr (.inl hbn))] at h; omega)
     go_wp2_with fail
     refine start_ (n := 21) (S := fun w' => Below w.heap.size W w') (ds := []) #[false, false, false, false, false, false, false, false, false, false, false, false, false, false, false, false, false, false, false, false, false] (by kernel_rfl) rfl rfl (below_drew1 (Below.refl _ _)) (fun hHeld => ?_)
     have HW9 := As.mk hHeld; clear hHeld; generalize W.drew = w9 at HW9 ⊢; have hHeld := HW9.out
     refine pI 0 (some 16) (bs 21 1) ?_
     refine pI 1 (some 17) (bs 21 3) ?_
     refine pI 2 (some 18) (bs 21 7) ?_
     refine tI 3 (some 19) (bs 21 15) rfl (by intro w' hS'; have s0 := hS'; have hc := Kd.C_below HR.out (HB.out.trans hS'); have x0 := rd_ad hc HX.out; have y0 := rd_ad hc HY.out; simp only [Addr.add_succ'] at y0; clear hc; go_simp; with_reducible rfl) hHeld ?_
     refine pI 4 (some 20) (bs 21 31) ?_
     refine pI 5 (some 21) (bs 21 63) ?_
     refine pO 6 (some 22) (bs 21 127) ?_
     refine pO 7 (some 23) (bs 21 255) ?_
     refine pO 8 (some 24) (bs 21 511) ?_
     refine pO 9 (some 25) (bs 21 1023) ?_
     refine pO 10 (some 26) (bs 21 2047) ?_
     refine pO 11 (some 27) (bs 21 4095) ?_
     refine pO 14 (some 30) (bs 21 20479) ?_
     refine pO 15 (some 31) (bs 21 53247) ?_
     refine pO 16 (some 32) (bs 21 118783) ?_
     refine pO 12 (some 28) (bs 21 122879) ?_
     refine pO 13 (some 29) (bs 21 131071) ?_
     refine pO 17 (some 33) (bs 21 262143) ?_
     refine pO 18 (some 34) (bs 21 524287) ?_
     refine pO 19 (some 35) (bs 21 1048575) ?_
     refine pI 20 (some 36) (bs 21 2097151) ?_
     refine done_ (by kernel_rfl) ?_
     go_wp2
     go_ret
     exact ⟨by rw [HE.out]; rfl, HB.out.trans HW9.out⟩
    ·have hb0 : 0 ≤ b := by omega
     have hbn2 : ¬ b < 0 := hbn
     have hdb : decide (b < 0) = false := by simpa using hb0
     have haw : IntKind.u8.wrap a = a := by rw [IntKind.wrap_u8]; have := rightP_byte HRA.out ha; omega
     have hbw : IntKind.u8.wrap b = b := by rw [IntKind.wrap_u8]; have := rightP_byte HRBB.out hb0; omega
     have HCU := As.mk (fun (W' : World) (pb : Nat) (h : BndAt W' pb (cls s.C) (joinB s.J)) => by
      have hc := cuts_any HS.out h a.toNat b.toNat (by have := rightP_byte HRA.out ha; omega) (by have := rightP_byte HRBB.out hb0; omega)
      rw [Int.toNat_of_nonneg ha, Int.toNat_of_nonneg hb0] at hc
      exact hc)
     have hsub : IntKind.i64.wrap ((i : Int) + 1 - 1) = (i : Int) := by rw [i64_w]; exact (w64 (by omega) (by omega)).trans (by omega)
     have hsub2 : IntKind.i64.wrap (i : Int) = (i : Int) := by rw [i64_w]; exact w64 (by omega) (by omega)
     go_wp2_with fail
     refine start_ (n := 21) (S := fun w' => Below w.heap.size W w') (ds := []) #[false, false, false, false, false, false, false, false, false, false, false, false, false, false, false, false, false, false, false, false, false] (by kernel_rfl) rfl rfl (below_drew1 (Below.refl _ _)) (fun hHeld => ?_)
     have HW9 := As.mk hHeld; clear hHeld; generalize W.drew = w9 at HW9 ⊢; have hHeld := HW9.out
     refine pI 0 (some 16) (bs 21 1) ?_
     refine pI 1 (some 17) (bs 21 3) ?_
     refine pI 2 (some 18) (bs 21 7) ?_
     refine tI 3 (some 19) (bs 21 15) rfl (by intro w' hS'; have s0 := hS'; have hc := Kd.C_below HR.out (HB.out.trans hS'); have x0 := rd_ad hc HX.out; have y0 := rd_ad hc HY.out; simp only [Addr.add_succ'] at y0; clear hc; go_simp; with_reducible rfl) hHeld ?_
     refine pI 4 (some 20) (bs 21 31) ?_
     refine pI 5 (some 21) (bs 21 63) ?_
     refine pI 6 (some 22) (bs 21 127) ?_
     refine pI 8 (some 24) (bs 21 383) ?_
     refine pI 9 (some 25) (bs 21 895) ?_
     refine pI 10 (some 26) (bs 21 1919) ?_
     refine pI 11 (some 27) (bs 21 3967) ?_
     refine pI 14 (some 30) (bs 21 20351) ?_
     refine pI 15 (some 31) (bs 21 53119) ?_
     refine pI 16 (some 32) (bs 21 118655) ?_
     refine tI 12 (some 28) (bs 21 122751) rfl (by intro w' hS'; have s0 := hS'; have hc := Kd.C_below HR.out (HB.out.trans hS'); have x0 := rd_ad hc HX.out; have y0 := rd_ad hc HY.out; simp only [Addr.add_succ'] at y0; clear hc; go_simp; with_reducible rfl) hHeld ?_
     refine pI 13 (some 29) (bs 21 130943) ?_
     refine tI 17 (some 33) (bs 21 262015) rfl (by intro w' hS'; have s0 := hS'; have hc := Kd.C_below HR.out (HB.out.trans hS'); have x0 := rd_ad hc HX.out; have y0 := rd_ad hc HY.out; simp only [Addr.add_succ'] at y0; clear hc; go_simp; with_reducible rfl) hHeld ?_
     refine pI 18 (some 34) (bs 21 524159) ?_
     refine one_ (i := 7) (N := some 23) (bs 21 524287) rfl rfl (by kernel_rfl) (by decide) (fun K hK => ?_)
     refine goes_ Tryz.func127 (by kernel_rfl) rfl #[.pointer (some ⟨v, 0, none⟩)] (by rfl) rfl rfl (by simp [Act.eval]) ?_
     refine (bounds_any (HV.out.below (HB.out.trans HW9.out))).mono ?_
     rintro e w10 ⟨pb, rfl, hbd, rfl⟩
     have HBD := As.mk hbd
     clear hbd
     refine ⟨_, rfl, ?_⟩
     refine hK.out _ _ HW9.out (fun _ => ?_)
     clear hK K
     refine nI ?_
     refine one_ (i := 19) (N := some 35) (bs 21 1048575) rfl rfl (by kernel_rfl) (by decide) (fun K hK => ?_)
     refine goes_ Tryz.func128 (by kernel_rfl) rfl #[.pointer (some ⟨pb, 0, none⟩), .int .u8 a, .int .u8 b] (by rfl) rfl rfl (by simp [Act.eval]) ?_
     refine (HCU.out _ pb HBD.out).mono ?_
     rintro e w10 ⟨rfl, hb10⟩
     have HW10 := As.mk (HW9.out.trans (hb10.mono (HB.out.trans HW9.out).size))
     clear hb10
     refine ⟨_, rfl, ?_⟩
     refine hK.out _ _ HW10.out (fun _ => ?_)
     clear hK K hHeld
     refine nI ?_
     refine pI 20 (some 36) (bs 21 2097151) ?_
     refine done_ (by kernel_rfl) ?_
     clear hsub hsub2 haw hbw
     cases hcut : cutP s a.toNat b.toNat with
     | true =>
      have HE := As.mk (show R = i + 1 by have h := HF.out; rw [HDR.out] at h; unfold cutN at h; rw [if_pos (.inr (.inr hcut))] at h; omega)
      clear hcut
      go_wp2
      go_ret
      exact ⟨by rw [HE.out]; rfl, HB.out.trans HW10.out⟩
     | false =>
      have HE := As.mk (show i + 1 + cutN s (xs.drop (i + 1)) = R by have h := HF.out; rw [HDR.out] at h; unfold cutN at h; rw [if_neg (by rw [hcut]; rintro (h1 | h1 | h1) <;> first | omega | cases h1)] at h; rw [HDR1.out]; omega)
      clear hcut
      go_wp2
      go_roundg f
      case measure => omega
      case rel => exact ⟨i + 1, _, b, by go_num, by omega, ⟨rfl⟩, ⟨by have := HK.out; omega⟩, HE, ⟨HY.out, hb0⟩, ⟨HB.out.trans HW10.out⟩⟩
   ·have HE := As.mk (show R = xs.length by
     have h := HF.out
     obtain ⟨g1, g2⟩ := List.getElem?_eq_some_iff.1 HAA.out.1
     rw [List.drop_eq_getElem_cons g1, List.drop_eq_nil_of_le (by omega)] at h
     have : i + 1 = R := h
     omega)
    have hltI : ¬ (i : Int) + 1 < (xs.length : Int) := by omega
    go_wp2
    go_ret
    exact ⟨by rw [HE.out]; rfl, HB.out⟩
end Go.Proofs.YtkffhgiiejbnaaaGreat.En
