/- A vocabulary, read: its uses, its parts, a token's items; no condition but that it is one. -/
import Derived.Test.YtkffhgiiejbnaaaGreatRfx0
import Derived.Test.YtkffhgiiejbnaaaGreatRender
import Derived.Test.YtkffhgiiejbnaaaGreatMarkRef
import Derived.Test.YtkffhgiiejbnaaaGreatRF35
import Derived.Test.YtkffhgiiejbnaaaGreatVocA
import Derived.Laws.LoneSync
namespace Go.Proofs.YtkffhgiiejbnaaaGreat.Rf
open Go.RowKit Go.Proofs.YtkffhgiiejbnaaaGreatW.PrintWords Go.Proofs.YtkffhgiiejbnaaaGreatW.PrintLast Go.Proofs.YtkffhgiiejbnaaaGreatW.PrintMore
attribute [local go_sem] max2_int min2_int max_two min_two max_three min_three max_four min_four   -- for this text's walks alone
set_option linter.unusedVariables false
set_option linter.unusedSimpArgs false

/-! ### mark_Bytes: function 28 -/
def mark_Bytes.l0 : Nat → ByteArray → List Int → Int → Int → Option (List Int)
  | 0, _, _, _, _ => none
  | k + 1, x0, x3, x6, x7 => if x7 < x6 then (if 0 ≤ x7 then (if x7 < (x0.size : Int) then (if x3.length < 17592186044416 then (mark_Bytes.l0 k x0 (x3 ++ [wrap64 (bt x0 x7)]) x6 (wrap64 (x7 + 1))) else (none)) else (none)) else (none)) else (some x3)
def mark_Bytes.f (k : Nat) (a0 : ByteArray) : Option (List Int) := mark_Bytes.l0 k a0 ([] : List Int) (a0.size : Int) 0
theorem mark_Bytes.mono_l : ∀ k, (∀ y0 y1 y2 y3, LeO (mark_Bytes.l0 k y0 y1 y2 y3) (mark_Bytes.l0 (k + 1) y0 y1 y2 y3))
  | 0 => fun _ _ _ _ r h => by simp [mark_Bytes.l0] at h
  | k + 1 => by
    have ih0 := mark_Bytes.mono_l k
    · intro y0 y1 y2 y3
      unfold mark_Bytes.l0
      repeat' first
      | (with_reducible exact ih0 _ _ _ _)
      | (with_reducible exact LeO.refl _)
      | (with_reducible exact LeO.none _)
      | (with_reducible refine LeO.ite ?_ ?_)
      | (with_reducible refine LeO.bind ?_ (fun _ => ?_))
      | exact ih0 _ _ _ _
      | exact LeO.none _
      | refine LeO.ite ?_ ?_
      | refine LeO.bind ?_ (fun _ => ?_)
theorem mark_Bytes.mono : ∀ a0 k, LeO (mark_Bytes.f k a0) (mark_Bytes.f (k + 1) a0) := by
  intro a0 k
  have ih0 := mark_Bytes.mono_l k
  unfold mark_Bytes.f
  repeat' first
      | (with_reducible exact ih0 _ _ _ _)
      | (with_reducible exact LeO.refl _)
      | (with_reducible exact LeO.none _)
      | (with_reducible refine LeO.ite ?_ ?_)
      | (with_reducible refine LeO.bind ?_ (fun _ => ?_))
      | exact ih0 _ _ _ _
      | exact LeO.none _
      | refine LeO.ite ?_ ?_
      | refine LeO.bind ?_ (fun _ => ?_)
set_option maxHeartbeats 8000000 in
set_option maxRecDepth 100000 in
theorem mark_Bytes.calls (k : Nat) (a0 : ByteArray) (r : List Int) (w : World) (h : mark_Bytes.f k a0 = some r) :
    Calls Tryz.prog 28 #[.string a0] w fun e w' => ∃ v0_ : Value, e = .returned (v0_) ∧ Kd.R (Kd.int .i64) 3 w' w.heap.size (fun _ => True) v0_ r ∧ Below w.heap.size w w' := by
  have HB := Aside0.mk (Below.refl w.heap.size w)
  have H : (mark_Bytes.l0 k a0 ([] : List Int) (a0.size : Int) 0) = some r := h
  clear h
  have H' := Aside0.mk H
  clear H
  go_enter Tryz.func28, Tryz.ntmps28
  go_wp2
  go_loopg [3, 7] k (fun kq v3 v7 w' => ∃ (x3_1 : List Int) (x7_1 : Int), v7 = .int .i64 x7_1 ∧ Aside0 (mark_Bytes.l0 kq a0 x3_1 (a0.size : Int) x7_1 = some r) ∧ Aside0 (kq ≤ k) ∧ Aside0 (Kd.R (Kd.int .i64) 3 w' w.heap.size (fun _ => True) v3 x3_1) ∧ Aside0 (Below w.heap.size w w'))
  case atStart => exact ⟨(([] : List Int)), (0), (by first | rfl | (simp; done) | (simp [*]; done)), H', ⟨Nat.le_refl _⟩, ⟨by first | exact Kd.R_nil _ _ _ _ _ | exact Kd.N_nil _ _ _ _ _ | exact Kd.V_nil _ _ _ _ _ | exact Kd.Q_nil _ _ _ _ _ | exact Kd.S_nil _ _ _ _ _⟩, ⟨by repeat (first | (with_reducible first | exact HB.out | apply below_alloc | apply pw_below_drewN | apply below_drew1) | exact HB.out)⟩⟩
  case round =>
    clear H'
    obtain ⟨x3_1, x7_1, rfl, HA, HK1, HO_3, HB⟩ := hrel
    cases gk with
    | zero => exact absurd HA.out (by simp [mark_Bytes.l0])
    | succ k1 =>
      have H := HA.out
      clear HA
      simp only [mark_Bytes.l0] at H
      by_cases c2 : x7_1 < (a0.size : Int)
      · rw [if_pos c2] at H
        have c2b0 : decide (x7_1 < (a0.size : Int)) = true := decide_eq_true c2
        clear c2
        by_cases c3 : 0 ≤ x7_1
        · rw [if_pos c3] at H
          have c3b0 : decide (0 ≤ x7_1) = true := decide_eq_true c3
          clear c3
          by_cases c4 : x7_1 < (a0.size : Int)
          · rw [if_pos c4] at H
            have c4b0 : decide (x7_1 < (a0.size : Int)) = true := decide_eq_true c4
            clear c4
            by_cases c6 : x3_1.length < 17592186044416
            · rw [if_pos c6] at H
              have LMc6 := Aside0.mk c6
              clear c6
              obtain ⟨y115, hy115⟩ : ∃ y_ : List Int, y_ = (x3_1 ++ [wrap64 (bt a0 x7_1)]) := ⟨_, rfl⟩
              replace H : (mark_Bytes.l0 k1 a0 y115 (a0.size : Int) (wrap64 (x7_1 + 1))) = some r := by first | (rw [hy115]; with_reducible exact H) | (have H2_ := (Option.bind_some _ _).symm.trans H; rw [hy115]; with_reducible exact H2_) | (have H2_ := (Option.bind_some _ _).symm.trans H; with_reducible exact H2_) | with_reducible exact H | (rw [hy115]; exact H) | exact H
              have Ny115 := Aside0.mk hy115
              clear hy115
              have H' := Aside0.mk H
              clear H
              have p5 : 0 ≤ (x7_1 : Int) := of_decide_eq_true (by first | (with_reducible assumption) | assumption)
              have q5 : x7_1 < (a0.size : Int) := of_decide_eq_true (by first | (with_reducible assumption) | assumption)
              have hx5 := bt_at a0 x7_1
              replace p5 := eq_true p5
              replace q5 := eq_true q5
              go_wp2_with (first | ((with_reducible refine gate_builtin (b := .append) (xs := #[.tmp 10, .tmp 15]) rfl ?_); at_builtin; refine Kd.R_append (Kd.int .i64) (w0 := w) w.heap.size rfl (.tmp 10) (.tmp 15) 41 3 (.int .i64 0) 8 rfl Tryz.underlying41 info3 rfl (by decide) (by omega) u3 x3_1 (wrap64 (bt a0 x7_1)) [.int .i64 (wrap64 (bt a0 x7_1))] (fun _ => True) (fun _ => False) rfl rfl ?aP (fun _ hk => hk.elim) ?aF ?aO ?aB ?aS ?aL ?_; (case aP => exact rfl); (case aB => exact (by repeat (first | (with_reducible first | exact HB.out | apply below_alloc | apply pw_below_drewN | apply below_drew1) | exact HB.out))); (case aF => exact (fun _ _ => trivial)); (case aO => exact (by (with_reducible repeat (first | apply Kd.R_alloc | apply Kd.R_drewN | apply Kd.R_drew)); exact HO_3.out)); (case aS => exact (below_size (by repeat (first | (with_reducible first | exact HB.out | apply below_alloc | apply pw_below_drewN | apply below_drew1) | exact HB.out)))); (case aL => have := LMc6.out; omega); intro v116 w7 ho hb hg hat; rw [← Ny115.out] at ho; have n0_ := Aside0.mk (hb); have n1_ := Aside0.mk (ho); clear HB; clear HO_3; have HB := n0_; have HO117 := n1_; clear n0_ n1_; clear ho hb hg hat))
              go_roundg k1
              case measure => have := HK1.out; omega
              case rel => exact ⟨(y115), (wrap64 (x7_1 + 1)), (by first | rfl | (simp; done) | (simp [*]; done)), H', ⟨by have := HK1.out; omega⟩, ⟨by (with_reducible repeat (first | apply Kd.R_alloc | apply Kd.R_drewN | apply Kd.R_drew)); exact HO117.out⟩, ⟨by repeat (first | (with_reducible first | exact HB.out | apply below_alloc | apply pw_below_drewN | apply below_drew1) | exact HB.out)⟩⟩
            · rw [if_neg c6] at H
              exact absurd H (by simp)
          · rw [if_neg c4] at H
            exact absurd H (by simp)
        · rw [if_neg c3] at H
          exact absurd H (by simp)
      · rw [if_neg c2] at H
        have c2b0 : decide (x7_1 < (a0.size : Int)) = false := decide_eq_false c2
        clear c2
        obtain rfl := Option.some.inj H
        go_wp2
        go_ret
        exact ⟨_, by first | rfl | (simp [errW_none, errW_some] <;> rfl) | (simp [*, errW_none, errW_some] <;> rfl), by (with_reducible repeat (first | apply Kd.R_alloc | apply Kd.R_drewN | apply Kd.R_drew)); exact HO_3.out, by repeat (first | (with_reducible first | exact HB.out | apply below_alloc | apply pw_below_drewN | apply below_drew1) | exact HB.out)⟩

-- NOT PRINTED: function 24 (encode_Plain)

-- NOT PRINTED: function 165 (api_Merge_165)

-- NOT PRINTED: function 139 (api_Merge_139)

-- NOT PRINTED: function 107 (api_Merge_107)
end Go.Proofs.YtkffhgiiejbnaaaGreat.Rf
namespace Go.Proofs.YtkffhgiiejbnaaaGreat.Mk
open Go.RowKit Go.Proofs.YtkffhgiiejbnaaaGreatW.PrintWords Go.Proofs.YtkffhgiiejbnaaaGreatW.PrintLast Go.Proofs.YtkffhgiiejbnaaaGreatW.PrintMore Go.Proofs.YtkffhgiiejbnaaaGreat.Rf Go.Proofs.YtkffhgiiejbnaaaGreat.Aid Go.Proofs.YtkffhgiiejbnaaaGreat.Mp
set_option linter.unusedVariables false
set_option linter.unusedSimpArgs false

theorem size_noS : (spNo).f1.size ≤ 64 := by show 0 ≤ 64; omega
theorem hasP_size {S : List Sp} (hS : GoodS S) (n : Int) : (hasP S n).1.f1.size ≤ 64 := by
  unfold hasP
  split
  · rename_i h
    have h1 : (-1 - n).toNat < S.length := by omega
    have : rd_T93 S (-1 - n) = S[(-1 - n).toNat] := by
      unfold rd_T93; rw [List.getD_eq_getElem?_getD, List.getElem?_eq_getElem h1]; rfl
    show (rd_T93 S (-1 - n)).f1.size ≤ 64
    rw [this]
    exact (hS.good _ (List.getElem_mem h1)).2.2.2
  · exact size_noS
theorem render_any {p : Nat} {S : List Sp} {w : World} (h : SetAt w p S) (A : Option Addr) (c : Nat) (xs : List Int) (hr : Kd.C (Kd.int .i64) w A xs.length xs) (hl : xs.length ≤ 1000000000000) :
    Calls Tryz.prog 105 #[.pointer (some ⟨p, 0, none⟩), .slice A xs.length c] w fun e w' => e = .returned (rendV (rendF (hasP S) xs)) ∧ Below w.heap.size w w' :=
  render_of _ (hasP S) A c xs w (hasP_size h.goodS) (fun W n hb => has_any (h.below hb) n) hr hl
theorem render_nil (A : Option Addr) (c : Nat) (xs : List Int) (w : World) (hr : Kd.C (Kd.int .i64) w A xs.length xs) (hl : xs.length ≤ 1000000000000) :
    Calls Tryz.prog 105 #[.pointer none, .slice A xs.length c] w fun e w' => e = .returned (rendV (rendF (fun _ => (spNo, false)) xs)) ∧ Below w.heap.size w w' :=
  render_of _ (fun _ => (spNo, false)) A c xs w (fun _ => size_noS) (fun W n hb => has_nil n W) hr hl

def natsOf (l : List UInt8) : List Int := l.map (fun b => (b.toNat : Int))
theorem str_natsOf (l : List UInt8) : strOfNums (natsOf l) = ⟨l.toArray⟩ := by
  unfold strOfNums natsOf
  rw [List.map_map]
  have : l.map ((fun n : Int => UInt8.ofNat n.toNat) ∘ fun b : UInt8 => (b.toNat : Int)) = l := by
    conv => rhs; rw [← List.map_id l]
    apply List.map_congr_left
    intro b _
    simp
  rw [this]
theorem natsOf_app (l m : List UInt8) : natsOf (l ++ m) = natsOf l ++ natsOf m := by simp [natsOf]
def rendR (o : Option (List UInt8)) : ByteArray × Bool := (match o with | some l => ⟨l.toArray⟩ | none => ⟨#[]⟩, o.isSome)
theorem rrun {S : List Sp} (hS : GoodS S) (xs : List Int) (hl : xs.length ≤ 1000000000000) : ∀ (d k i : Nat) (acc : List UInt8), i ≤ xs.length → xs.length - i = d → 2 * d < k → acc.length ≤ i * 64 →
    ligatureref09_Render.l0 k S xs (natsOf acc) i = some (rendR ((rendF (hasP S) (xs.drop i)).map (acc ++ ·)))
  | 0, k, i, acc, h0, h1, h2, h3 => by
    obtain ⟨k, rfl⟩ : ∃ m, k = m + 1 := ⟨k - 1, by omega⟩
    simp only [ligatureref09_Render.l0]
    rw [if_neg (by omega), List.drop_eq_nil_of_le (by omega), str_natsOf]
    simp [rendF, rendR]
  | d + 1, k, i, acc, h0, h1, h2, h3 => by
    obtain ⟨k, rfl⟩ : ∃ m, k = m + 2 := ⟨k - 2, by omega⟩
    have hlt : i < xs.length := by omega
    have hfew := hS.few
    have e1 : i + 1 ≤ xs.length := by omega
    have e2 : xs.length - (i + 1) = d := by omega
    have e3 : 2 * d < k := by omega
    have hw : wrap64 ((i : Int) + 1) = ((i + 1 : Nat) : Int) := (w64 (by omega) (by omega)).trans (by omega)
    have hlen : (natsOf acc).length = acc.length := by simp [natsOf]
    have hnb : ∀ n : Int, 0 ≤ n → n < 256 → natsOf acc ++ [n % 256] = natsOf (acc ++ [UInt8.ofNat n.toNat]) := fun n hn0 hn1 => by
      rw [natsOf_app]
      congr 1
      obtain ⟨m, rfl⟩ := Int.eq_ofNat_of_zero_le hn0
      have h1 : m % 256 = m := Nat.mod_eq_of_lt (by omega)
      have h2 : (m : Int) % 256 = m := by omega
      simp [natsOf, UInt8.toNat_ofNat, h1, h2]
    have hbs : ∀ s : ByteArray, natsOf acc ++ bytesOf s = natsOf (acc ++ s.data.toList) := fun s => by rw [natsOf_app]; rfl
    simp only [ligatureref09_Render.l0]
    rw [if_pos (by omega), if_pos (by omega), List.drop_eq_getElem_cons hlt]
    by_cases hn : 0 ≤ xs[i] ∧ xs[i] < 256
    · rw [rdI hlt, if_pos hn.1, rend_byte hn, decide_eq_true hn.2]
      simp only [ligatureref09_Render.j1, if_true]
      rw [if_pos (by omega), if_pos (by omega), if_pos (by omega), rdI hlt, hw, hnb _ hn.1 hn.2]
      exact rrun hS xs hl d k (i + 1) _ e1 e2 e3 (by simp; omega)
    · have hj : (if rd xs (i : Int) ≥ 0 then ligatureref09_Render.j1 (k + 1) S xs (natsOf acc) (i : Int) (decide (rd xs (i : Int) < 256)) else ligatureref09_Render.j1 (k + 1) S xs (natsOf acc) (i : Int) false) = ligatureref09_Render.j1 (k + 1) S xs (natsOf acc) (i : Int) false := by
        rw [rdI hlt]
        by_cases h0 : xs[i] ≥ 0
        · rw [if_pos h0, decide_eq_false (by omega)]
        · rw [if_neg h0]
      rw [hj]
      simp only [ligatureref09_Render.j1, Bool.false_eq_true, if_false]
      rw [if_pos (by omega), if_pos (by omega), rdI hlt]
      have hwn : wrap64 (-(S.length : Int)) = -(S.length : Int) := w64 (by omega) (by omega)
      rw [hwn]
      by_cases h1 : xs[i] < 0
      · rw [if_pos h1]
        by_cases h2 : xs[i] ≥ -(S.length : Int)
        · have hw2 : wrap64 (-1 - xs[i]) = -1 - xs[i] := w64 (by omega) (by omega)
          have hH : hasP S xs[i] = (rd_T93 S (-1 - xs[i]), true) := by unfold hasP; rw [if_pos ⟨h1, by omega⟩]
          have hsz := hasP_size hS xs[i]
          rw [hH] at hsz
          rw [if_pos h2, hw2, if_pos (by omega), if_pos (by omega), rend_mark hn (by rw [hH]), hH]
          rw [if_pos (by rw [hlen]; simp only at hsz; omega), hbs, hw]
          exact rrun hS xs hl d k (i + 1) _ e1 e2 e3 (by rw [List.length_append, ← Lib.size_eq]; simp only at hsz; omega)
        · have hH : hasP S xs[i] = (spNo, false) := by unfold hasP; rw [if_neg (by omega)]
          rw [if_neg h2, rend_none hn (by rw [hH])]
          rfl
      · have hH : hasP S xs[i] = (spNo, false) := by unfold hasP; rw [if_neg (by omega)]
        rw [if_neg h1, rend_none hn (by rw [hH])]
        rfl
theorem rend_some {S : List Sp} (hS : GoodS S) (xs : List Int) (hl : xs.length ≤ 1000000000000) : ligatureref09_Render.f (2 * xs.length + 1) S xs = some (rendR (rendF (hasP S) xs)) := by
  unfold ligatureref09_Render.f
  have := rrun hS xs hl xs.length (2 * xs.length + 1) 0 [] (by omega) (by omega) (by omega) (by simp)
  rw [List.drop_zero] at this
  refine this.trans ?_
  congr 2
  cases rendF (hasP S) xs with
  | none => rfl
  | some l => simp
theorem refRender_any (A : Option Addr) (c : Nat) (l : List Sp) (B : Option Addr) (d : Nat) (xs : List Int) (w : World) (hr : Kd.C kSp w A l.length l) (hc : l.length ≤ c) (hr1 : Kd.C (Kd.int .i64) w B xs.length xs) (hc1 : xs.length ≤ d) (hS : GoodS l) (hl : xs.length ≤ 1000000000000) :
    Calls Tryz.prog 35 #[.slice A l.length c, .slice B xs.length d] w fun e w' => e = .returned (rendV (rendF (hasP l) xs)) ∧ Below w.heap.size w w' :=
  ligatureref09_Render.calls _ A c l B d xs _ _ w hr hc hr1 hc1 (rend_some hS xs hl)
end Go.Proofs.YtkffhgiiejbnaaaGreat.Mk
namespace Go.Proofs.YtkffhgiiejbnaaaGreat.Vc
open Go.Shelf Go.RowKit Go.Proofs.YtkffhgiiejbnaaaGreatW.PrintWords Go.Proofs.YtkffhgiiejbnaaaGreatW.PrintLast Go.Proofs.YtkffhgiiejbnaaaGreatW.PrintMore Go.Proofs.YtkffhgiiejbnaaaGreat.Rf Go.Proofs.YtkffhgiiejbnaaaGreat.Aid Go.Proofs.YtkffhgiiejbnaaaGreat.Mp Go.Proofs.YtkffhgiiejbnaaaGreat.Hp Go.Proofs.YtkffhgiiejbnaaaGreat.Fn Go.Proofs.YtkffhgiiejbnaaaGreat.Bn Go.Proofs.YtkffhgiiejbnaaaGreat.Tk
set_option linter.unusedVariables false
set_option linter.unusedSimpArgs false
set_option maxHeartbeats 400000

theorem VocAt.lt {w : World} {v : Nat} {s : Sp} (h : VocAt w v s) : v < w.heap.size := by obtain ⟨cs, hc⟩ := h.blk; exact blk_lt hc
theorem VocAt.below {w w' : World} {v : Nat} {s : Sp} (h : VocAt w v s) (hb : Below w.heap.size w w') : VocAt w' v s := by
  obtain ⟨⟨cs, hc⟩, ⟨n, hn⟩, w0, pt, pb, pm, h1, h2, h3, h4, h5, h6, h7, h8⟩ := h
  exact ⟨⟨cs, (hb.block _ (blk_lt hc)).trans hc⟩, ⟨n, pw_cell_below hb hn⟩, w0, pt, pb, pm, h1, h2.trans (hb.mono h2.size), h3, h4, h5, pw_cell_below hb h6, pw_cell_below hb h7, pw_cell_below hb h8⟩
theorem VocAt.used {w : World} {v : Nat} {s : Sp} (h : VocAt w v s) (m : Int) : VocAt (w.setCell ⟨v, 13, none⟩ (.int .i64 m)) v s := by
  obtain ⟨⟨cs, hc⟩, ⟨n, hn⟩, w0, pt, pb, pm, h1, h2, h3, h4, h5, h6, h7, h8⟩ := h
  exact ⟨⟨_, blk_set hc 13 _⟩, ⟨m, set_eq hn⟩, w0, pt, pb, pm, h1, h2.setCell (p := ⟨v, 13, none⟩) h1 _, h3, h4, h5, by rw [set_ne _ _ _ _ _ (by decide)]; exact h6, by rw [set_ne _ _ _ _ _ (by decide)]; exact h7, by rw [set_ne _ _ _ _ _ (by decide)]; exact h8⟩
theorem uses_any {w : World} {v : Nat} {s : Sp} (h : VocAt w v s) : Calls Tryz.prog 72 #[.pointer (some ⟨v, 13, none⟩), .int .i64 1] w fun e w' => ∃ m : Int, e = .returned (.int .i64 m) ∧ w' = w.setCell ⟨v, 13, none⟩ (.int .i64 m) := by
  obtain ⟨n, hn⟩ := h.uses
  obtain ⟨cs, hc⟩ := h.blk
  have hz := blk_frozen hc 13
  have hadd := run_call_add (P := Tryz.prog) Tryz.func103 (by kernel_rfl) (by kernel_rfl) (by kernel_rfl) .i64 (by kernel_rfl) (y := 1) (s := wrap64 (n + 1)) hn hz (by simp [go_sem, i64_w])
  clear hc h
  go_enter Tryz.func72, Tryz.ntmps72
  go_wp2
  go_ret
  exact ⟨_, rfl, rfl⟩
theorem marks_any {w : World} {v : Nat} {s : Sp} (h : VocAt w v s) : Calls Tryz.prog 67 #[.pointer (some ⟨v, 0, none⟩)] w fun e w' => ∃ pm, e = .returned (.pointer (some ⟨pm, 0, none⟩)) ∧ Mk.SetAt w pm s.X ∧ w = w' := by
  obtain ⟨_, _, w0, pt, pb, pm, h1, h2, h3, h4, h5, h6, h7, h8⟩ := h
  have H := As.mk (h5.below h2)
  clear h5 h4 h3 h2 h1
  go_enter Tryz.func67, Tryz.ntmps67
  go_wp2
  go_ret
  exact ⟨pm, rfl, H.out, rfl⟩
/-- a text's bytes -/
def bytesI (s : ByteArray) : List Int := (List.range s.size).map (fun i : Nat => bt s (i : Int))
theorem bytesI_len (s : ByteArray) : (bytesI s).length = s.size := by simp [bytesI]
theorem bytes_run (s : ByteArray) (hs : s.size ≤ 17592186044415) : ∀ (d k i : Nat), i ≤ s.size → s.size - i = d → d < k → mark_Bytes.l0 k s ((bytesI s).take i) (s.size : Int) (i : Int) = some (bytesI s)
  | 0, k, i, h0, h1, h2 => by
    obtain ⟨k, rfl⟩ : ∃ m, k = m + 1 := ⟨k - 1, by omega⟩
    simp only [mark_Bytes.l0]
    rw [if_neg (by omega), List.take_of_length_le (by rw [bytesI_len]; omega)]
  | d + 1, k, i, h0, h1, h2 => by
    obtain ⟨k, rfl⟩ : ∃ m, k = m + 1 := ⟨k - 1, by omega⟩
    simp only [mark_Bytes.l0]
    have hl : ((bytesI s).take i).length = i := by rw [List.length_take, bytesI_len]; omega
    rw [if_pos (by omega), if_pos (by omega), if_pos (by omega), if_pos (by rw [hl]; omega)]
    have hb := bt_range s i
    have e1 : ((bytesI s).take i) ++ [wrap64 (bt s (i : Int))] = (bytesI s).take (i + 1) := by
      rw [List.take_succ_eq_append_getElem (by rw [bytesI_len]; omega), w64 (by omega) (by omega)]
      congr 2
      simp [bytesI]
    rw [e1, w64 (by omega) (by omega), show ((i : Int) + 1) = ((i + 1 : Nat) : Int) from by omega]
    exact bytes_run s hs d k (i + 1) (by omega) (by omega) (by omega)
theorem bytes_of (s : ByteArray) (hs : s.size ≤ 17592186044415) (w : World) : Calls Tryz.prog 28 #[.string s] w fun e w' => ∃ v0 : Value, e = .returned v0 ∧ Kd.R (Kd.int .i64) 3 w' w.heap.size (fun _ => True) v0 (bytesI s) ∧ Below w.heap.size w w' :=
  mark_Bytes.calls (s.size + 1) s (bytesI s) w (bytes_run s hs s.size (s.size + 1) 0 (by omega) (by omega) (by omega))

def hasId (s : Sp) (id : Int) : Bool := (Mk.idxI s.X id).isSome || hasE (tabOf s).1 id
/-- a token's items -/
def itemsOf (s : Sp) (id : Int) : List Int := match Mk.idxI s.X id with
  | some i => [-1 - (i : Int)]
  | none => bytesI (if hasE (tabOf s).1 id = true then byt (tabOf s).1 id else ⟨#[]⟩)
theorem bytes_at {p : Nat} {E : List Ent} {w : World} (h : TabAt w p E) (id : Int) : Calls Tryz.prog 104 #[.pointer (some ⟨p, 0, none⟩), .int .i64 id] w fun e w' => e = .returned (.tuple #[.string (if hasE E id = true then byt E id else ⟨#[]⟩), .bool (hasE E id)]) ∧ Below w.heap.size w w' := by
  cases hh : hasE E id with
  | true =>
    have h1 : 0 ≤ id ∧ id < (E.length : Int) := of_decide_eq_true hh
    obtain ⟨i, rfl⟩ := Int.eq_ofNat_of_zero_le h1.1
    have hi : i < E.length := by omega
    rw [if_pos rfl, byt_at hi]
    exact (bytes_yes h i hi).mono fun e w' ⟨he, hd⟩ => ⟨he, by obtain ⟨n, rfl⟩ := hd; exact pw_below_drewN (Below.refl _ _) n⟩
  | false =>
    have h1 : ¬ (0 ≤ id ∧ id < (E.length : Int)) := of_decide_eq_false hh
    rw [if_neg (by decide)]
    exact (bytes_no h id h1).mono fun e w' ⟨he, hd⟩ => ⟨he, hd ▸ Below.refl _ _⟩
theorem byt_small {E : List Ent} (h : ∀ x ∈ E, 1 ≤ x.f0.size ∧ x.f0.size ≤ 64) (id : Int) : (if hasE E id = true then byt E id else ⟨#[]⟩).size ≤ 64 := by
  cases hh : hasE E id with
  | true =>
    have h1 : 0 ≤ id ∧ id < (E.length : Int) := of_decide_eq_true hh
    obtain ⟨i, rfl⟩ := Int.eq_ofNat_of_zero_le h1.1
    have hi : i < E.length := by omega
    rw [if_pos rfl, byt_at hi]
    exact (h _ (List.getElem_mem hi)).2
  | false => rw [if_neg (by decide)]; decide
set_option maxRecDepth 100000 in
theorem items_one {w : World} {v : Nat} {s : Sp} (h : VocAt w v s) (id : Int) : Calls Tryz.prog 73 #[.pointer (some ⟨v, 0, none⟩), .int .i64 id] w fun e w' => ∃ sv : Value, e = .returned (.tuple #[sv, .bool (hasId s id)]) ∧ Kd.R (Kd.int .i64) 3 w' w.heap.size (fun _ => True) sv (itemsOf s id) ∧ Below w.heap.size w w' := by
  obtain ⟨_, _, w0, pt, pb, pm, h1, h2, h3, h4, h5, h6, h7, h8⟩ := h
  have HM := As.mk (Mk.mark_any (h5.below h2) id)
  have HT := As.mk (bytes_at (h3.below h2) id)
  have hsm := byt_small h3.small id
  have HS := As.mk hsm
  clear hsm h5 h4 h3 h2 h1 h7
  unfold hasId itemsOf
  cases hi : Mk.idxI s.X id with
  | some i =>
    rw [hi] at HM
    unfold Mk.markT Mk.markV at HM
    simp only [Option.isSome_some, Bool.true_or] at HM ⊢
    clear hi HT HS
    go_enter Tryz.func73, Tryz.ntmps73
    go_wp2_with (go_at_call 98; refine HM.out.mono ?_; rintro e w1 ⟨rfl, rfl⟩)
    go_ret2
    exact ⟨_, rfl, Kd.R_of_own (own_lit w w.heap.size 3 .i64 [-1 - (i : Int)] (Nat.le_refl _) (by simp)) (fun _ _ => trivial), below_alloc (Below.refl _ _) _⟩
  | none =>
    rw [hi] at HM
    unfold Mk.markT Mk.markV at HM
    simp only [Option.isSome_none, Bool.false_or] at HM ⊢
    clear hi
    generalize (if hasE (tabOf s).1 id = true then byt (tabOf s).1 id else ⟨#[]⟩) = sb at *
    generalize hasE (tabOf s).1 id = ok at *
    go_enter Tryz.func73, Tryz.ntmps73
    go_wp2_with (first
      | (go_at_call 98; refine HM.out.mono ?_; rintro e w1 ⟨rfl, rfl⟩)
      | (go_at_call 104; refine HT.out.mono ?_; rintro e w2 ⟨rfl, hb⟩; have HB2 := As.mk hb; clear hb)
      | (go_at_call 28; refine (bytes_of sb (by have := HS.out; omega) _).mono ?_; rintro e w3 ⟨sv, rfl, ho, hb⟩; have HB3 := As.mk (bt_ HB2.out hb); have HO3 := As.mk ho; clear ho hb))
    go_ret2
    exact ⟨_, rfl, Kd.R_lower HO3.out HB2.out.size, HB3.out⟩
end Go.Proofs.YtkffhgiiejbnaaaGreat.Vc
