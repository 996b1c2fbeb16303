import Derived.Test.YtkffhgiiejbnaaaGreatQChainE
set_option maxRecDepth 100000
set_option maxHeartbeats 400000
set_option linter.unusedVariables false
set_option linter.unusedSimpArgs false
namespace Go.Proofs.YtkffhgiiejbnaaaGreat.Ch
open Go.RowKit YtkffhgiiejbnaaaGreatW.PrintWords YtkffhgiiejbnaaaGreatW.PrintLast YtkffhgiiejbnaaaGreatW.PrintMore Aid Mp Hp Hq Tk
def nodesN (s : ByteArray) (n : Nat) : List Nd := (List.range n).map (fun i : Nat => ⟨bt s (i : Int), (i : Int) - 1, (i : Int) + 1⟩)
theorem nodesN_len (s : ByteArray) (n : Nat) : (nodesN s n).length = n := by simp [nodesN]
theorem nodesN_succ (s : ByteArray) (n : Nat) : nodesN s (n + 1) = nodesN s n ++ [⟨bt s (n : Int), (n : Int) - 1, (n : Int) + 1⟩] := by simp [nodesN, List.range_succ]
def nodesF (s : ByteArray) : List Nd := (List.range s.size).map (fun i : Nat => ⟨bt s (i : Int), (i : Int) - 1, if i + 1 = s.size then -1 else (i : Int) + 1⟩)
theorem nodesF_len (s : ByteArray) : (nodesF s).length = s.size := by simp [nodesF]
theorem nodesF_at (s : ByteArray) {i : Nat} (h : i < s.size) : (nodesF s)[i]? = some ⟨bt s (i : Int), (i : Int) - 1, if i + 1 = s.size then -1 else (i : Int) + 1⟩ := by
 unfold nodesF; rw [List.getElem?_map, List.getElem?_range h]; rfl
theorem nodes_last (s : ByteArray) {k : Nat} (h : s.size = k + 1) : (nodesN s s.size).set k ⟨bt s (k : Int), (k : Int) - 1, -1⟩ = nodesF s := by
 apply List.ext_getElem?
 intro i
 rw [List.getElem?_set]
 by_cases e : k = i
 ·subst e
  rw [if_pos rfl, if_pos (by rw [nodesN_len]; omega), nodesF_at s (by omega), if_pos (by omega)]
 ·rw [if_neg e]
  by_cases hi : i < s.size
  ·rw [nodesF_at s hi, if_neg (by omega)]
   unfold nodesN; rw [List.getElem?_map, List.getElem?_range hi]; rfl
  ·rw [List.getElem?_eq_none (by rw [nodesN_len]; omega), List.getElem?_eq_none (by rw [nodesF_len]; omega)]
theorem nodes_goes (s : ByteArray) {i : Nat} (h : i < s.size) : ∃ n, (nodesF s)[i]? = some n ∧ Goes (nodesF s) n := by
 refine ⟨_, nodesF_at s h, ?_⟩
 by_cases e : i + 1 = s.size
 ·exact .inl (by show (if i + 1 = s.size then (-1 : Int) else (i : Int) + 1) = _; rw [if_pos e])
 ·exact .inr ⟨i + 1, _, by show (if i + 1 = s.size then (-1 : Int) else (i : Int) + 1) = _; rw [if_neg e]; omega, nodesF_at s (by omega)⟩
structure AskedTo (E : List Ent) (lim : Int) (L : List Nd) (i : Nat) (H : List (Th Wx)) : Prop where
 all : ∀ (k : Nat) r a b, k < i → askF E lim L (k : Int) = some (r, a, b) → ∃ t, (⟨r, (k : Int), t, ⟨(k : Int), a, b⟩⟩ : Th Wx) ∈ H
 only : ∀ x ∈ H, ∃ k : Nat, k < i ∧ x.p = (k : Int) ∧ x.x.f = (k : Int) ∧ askF E lim L (k : Int) = some (x.r, x.x.a, x.x.b)
 many : H.length ≤ i
theorem AskedTo.zero (E : List Ent) (lim : Int) (L : List Nd) : AskedTo E lim L 0 [] := ⟨fun k _ _ _ h _ => by omega, (fun x hx => by cases hx), by simp⟩
theorem AskedTo.step {E : List Ent} {lim : Int} {L : List Nd} {i : Nat} {H H' : List (Th Wx)} (h : AskedTo E lim L i H) (ha : AskH (askF E lim L (i : Int)) (i : Int) H H') : AskedTo E lim L (i + 1) H' := by
 cases hq : askF E lim L (i : Int) with
 | none =>
  rw [hq] at ha
  have e : H' = H := ha
  subst e
  refine ⟨fun k r a b hk hr => ?_, fun x hx => ?_, by have := h.many; omega⟩
  ·by_cases e : k = i
   ·subst e; rw [hq] at hr; cases hr
   ·exact h.all k r a b (by omega) hr
  ·obtain ⟨k, h1, h2⟩ := h.only x hx
   exact ⟨k, by omega, h2⟩
 | some y =>
  obtain ⟨r0, a0, b0⟩ := y
  rw [hq] at ha
  obtain ⟨t, e⟩ := ha
  subst e
  refine ⟨fun k r a b hk hr => ?_, fun x hx => ?_, by have := h.many; simp; omega⟩
  ·by_cases e : k = i
   ·subst e; rw [hq] at hr; injection hr with hr; injection hr with h1 hr; injection hr with h2 h3; subst h1; subst h2; subst h3
    exact ⟨t, List.mem_cons_self ..⟩
   ·obtain ⟨t2, h2⟩ := h.all k r a b (by omega) hr
    exact ⟨t2, List.mem_cons_of_mem _ h2⟩
  ·rcases List.mem_cons.1 hx with e | hx
   ·subst e; exact ⟨i, by omega, rfl, rfl, hq⟩
   ·obtain ⟨k, h1, h2⟩ := h.only x hx
    exact ⟨k, by omega, h2⟩
theorem new_any (w : World) : Calls Tryz.prog 177 #[] w fun e w' => e = .returned (.pointer (some ⟨w.heap.size, 0, none⟩)) ∧ w.alloc (.cells #[.slice none 0 0, .int .i64 0] 288) = w' := by
 go_enter Tryz.func177, Tryz.ntmps177
 go_wp2
 go_ret
 exact ⟨rfl, rfl⟩
theorem LkAt.told {W W1 : World} {base c : Nat} {v v1 : Value} {pt q : Nat} {lim st : Int} {L L' : List Nd} (H : LkAt W base c v pt q lim st L) (hg : W.grownBy W1 v.ownBlock) (hr : Kd.R kNd 280 W1 base (fun _ => True) v1 L') : LkAt (W1.setCell ⟨c, 1, none⟩ v1) base c v1 pt q lim st L' := by
 have hc := blk_grown H.blk hg (Kd.R_ne H.rows H.blk (by decide))
 obtain ⟨cs, hq⟩ := H.qt
 have hq1 := blk_grown hq hg (Kd.R_ne H.rows hq (by decide))
 exact ⟨H.le, H.ne, blk_set hc 1 v1, ⟨cs, (Below.heap_setCell W1 ⟨c, 1, none⟩ v1 q (Ne.symm H.ne)).trans hq1⟩, Kd.R_set hr hc (by decide) 1 v1⟩
theorem HpOf.grown {W W1 : World} {base c q B : Nat} {v : Value} {pt : Nat} {lim st : Int} {L : List Nd} {H : List (Th Wx)} (HQ : HpOf W base q B H) (HL : LkAt W base c v pt q lim st L) (hg : W.grownBy W1 v.ownBlock) : HpOf W1 base q B H := by
 obtain ⟨u, n, l', h1, h2⟩ := HQ.out
 have hq1 := blk_grown h1.blk hg (Kd.R_ne HL.rows h1.blk (by decide))
 exact ⟨⟨u, n, l', ⟨h1.le, hq1, Kd.R_over h1.rows HL.rows (fun z hz => by simp only [kTh_E, List.mem_singleton] at hz; rw [hz]; decide) hg⟩, h2⟩⟩
end Go.Proofs.YtkffhgiiejbnaaaGreat.Ch
namespace Go.Proofs.YtkffhgiiejbnaaaGreat.Ch
open Go.RowKit YtkffhgiiejbnaaaGreatW.PrintWords YtkffhgiiejbnaaaGreatW.PrintLast YtkffhgiiejbnaaaGreatW.PrintMore Aid Mp Hp Hq Tk
structure Begun (w w' : World) (c : Nat) (pt : Nat) (lim : Int) (E : List Ent) (s : ByteArray) : Prop where
 mk :: (out : ∃ q v H, LkAt w' w.heap.size c v pt q lim 0 (nodesF s) ∧ HpOf w' w.heap.size q s.size H ∧ AskedTo E lim (nodesF s) s.size H) (below : Below w.heap.size w w')
theorem begin_any {w : World} {pt : Nat} {E : List Ent} (HT : TabAt w pt E) (s : ByteArray) (hs : s.size ≤ 200000000) (lim : Int) :
  Calls Tryz.prog 173 #[.pointer (some ⟨pt, 0, none⟩), .string s, .int .i64 lim] w fun e w' => ∃ c, e = .returned (.pointer (some ⟨c, 0, none⟩)) ∧ Begun w w' c pt lim E s := by
 have HS := As.mk hs
 have HTT := As.mk HT
 clear HT hs
 go_enter Tryz.func173, Tryz.ntmps173
 go_wp2_with (go_at_call 177; refine (new_any _).mono ?_; rintro e w1 ⟨rfl, rfl⟩)
 have hn := two_new w (.cells #[.slice none 0 0, .int .i64 0] 288 (0, 0)) (.cells #[.pointer (some ⟨pt, 0, none⟩), .slice none 0 0, .pointer (some ⟨w.heap.size, 0, none⟩), .int .i64 lim, .int .i64 0] 278 (0, 0))
 have HL0 := As.mk (LkAt.mk (base := w.heap.size) (Nat.le_succ _) (by omega) hn.2 ⟨_, hn.1⟩ (Kd.R_nil kNd 280 _ _ _))
 have HQ0 := As.mk (HpOf.mk (B := 0) ⟨_, 0, [], HpAt.mk (base := w.heap.size) (Nat.le_refl _) hn.1 (Kd.R_nil kTh 294 _ _ _), Int.le_refl _, Int.le_refl _, List.Perm.refl _, fun j hj x y hx => by simp at hx⟩)
 have HB0 := As.mk (below_alloc (below_alloc (Below.refl w.heap.size w) (.cells #[.slice none 0 0, .int .i64 0] 288)) (.cells #[.pointer (some ⟨pt, 0, none⟩), .slice none 0 0, .pointer (some ⟨w.heap.size, 0, none⟩), .int .i64 lim, .int .i64 0] 278))
 clear hn
 generalize (w.alloc (.cells #[.slice none 0 0, .int .i64 0] 288)).alloc (.cells #[.pointer (some ⟨pt, 0, none⟩), .slice none 0 0, .pointer (some ⟨w.heap.size, 0, none⟩), .int .i64 lim, .int .i64 0] 278) = w1 at HL0 HQ0 HB0 ⊢
 go_loopg [18] s.size (fun f v18 w' => ∃ (i : Nat) (v : Value) (W : World), v18 = .int .i64 (i : Int) ∧ i ≤ s.size ∧ As (W = w') ∧ As (s.size ≤ i + f) ∧ As (LkAt W w.heap.size (w.heap.size + 1) v pt w.heap.size lim 0 (nodesN s i)) ∧ As (HpOf W w.heap.size w.heap.size 0 []) ∧ As (Below w.heap.size w W))
 case atStart => exact ⟨0, _, w1, rfl, Nat.zero_le _, ⟨rfl⟩, ⟨by omega⟩, HL0, HQ0, HB0⟩
 case round =>
  clear HL0 HQ0 HB0
  obtain ⟨i, v, W, rfl, hi, HW, HK, HL, HQ, HB⟩ := hrel
  have hW := HW.out
  subst hW
  clear HW
  by_cases hlt : i < s.size
  ·obtain ⟨f, rfl⟩ : ∃ f, gk = f + 1 := ⟨gk - 1, by have := HK.out; omega⟩
   obtain ⟨A, cap, rfl⟩ := Kd.R_slice HL.out.rows
   have hltI : (i : Int) < (s.size : Int) := by omega
   have hi0 : (0 : Int) ≤ (i : Int) := by omega
   have hiB : (i : Int) ≤ 200000000 := by have := HS.out; omega
   have hb := bt_at s (i : Int)
   have hbr := bt_range s (i : Int)
   simp only [Int.toNat_natCast] at hb
   have hw0 : IntKind.i64.wrap (bt s (i : Int)) = bt s (i : Int) := by rw [i64_w]; exact w64 (by omega) (by omega)
   have hw1 : IntKind.i64.wrap ((i : Int) - 1) = (i : Int) - 1 := by rw [i64_w]; exact w64 (by omega) (by omega)
   have hw2 : IntKind.i64.wrap ((i : Int) + 1) = (i : Int) + 1 := by rw [i64_w]; exact w64 (by omega) (by omega)
   have HLN := As.mk (nodesN_len s i)
   have HSU := As.mk (nodesN_succ s i)
   generalize hL2 : nodesN s (i + 1) = L2 at HSU
   have HL2 := As.mk hL2
   clear hL2
   generalize nodesN s i = L at *
   have c1 := HL.out.c.2.1
   go_wp2
   refine start_ (n := 19) (S := fun w' => w'.cell? ⟨w.heap.size + 1, 1, none⟩ = some (.slice A L.length cap)) (ds := [18]) #[false, false, false, false, false, false, false, false, false, false, false, false, false, false, false, false, false, false, false] (by kernel_rfl) rfl rfl (c1) (fun hHeld => ?_)
   have HL3 := As.mk (HL.out.below (below_drew1 (Below.refl _ _))); have HQ3 := As.mk (HQ.out.below (below_drew1 (Below.refl _ _))); have HB3 := As.mk (below_drew1 HB.out); clear HL HQ HB c1; generalize W.drew = w3 at HL3 HQ3 HB3 hHeld ⊢; have HH30 := As.mk hHeld
   refine pI 0 (some 21) (bs 19 1) ?_
   refine pI 1 (some 22) (bs 19 3) ?_
   refine pI 2 (some 23) (bs 19 7) ?_
   refine pI 3 (some 24) (bs 19 15) ?_
   refine pI 5 (some 26) (bs 19 47) ?_
   refine pI 6 (some 27) (bs 19 111) ?_
   refine pI 7 (some 28) (bs 19 239) ?_
   refine pI 8 (some 29) (bs 19 495) ?_
   refine pI 9 (some 30) (bs 19 1007) ?_
   refine pI 10 (some 31) (bs 19 2031) ?_
   refine pI 11 (some 32) (bs 19 4079) ?_
   refine pI 12 (some 33) (bs 19 8175) ?_
   refine pI 13 (some 34) (bs 19 16367) ?_
   refine tI 4 (some 25) (bs 19 16383) rfl (by intro w' hS'; have s0 := hS'; go_simp; with_reducible rfl) hHeld ?_
   refine one_ (i := 14) (N := some 35) (bs 19 32767) rfl rfl (by kernel_rfl) (by decide) (fun K hK => ?_)
   refine value_ (w1 := w3.alloc (.cells #[.int .i64 (bt s (i : Int)), .int .i64 ((i : Int) - 1), .int .i64 ((i : Int) + 1)] 280)) (v := .slice (some ⟨w3.heap.size, 0, none⟩) 1 1) (by rfl) rfl ?_ ?_
   ·first | (go_simp; done) | (go_simp; rfl)
   refine hK.out _ _ (pw_cell_below (below_alloc (Below.refl _ _) _) hHeld) (fun hHeld => ?_)
   clear hK K
   refine nI ?_
   refine one_ (i := 15) (N := some 36) (bs 19 65535) rfl rfl (by kernel_rfl) (by decide) (fun K hK => ?_)
   refine Kd.R_append_step kNd (w0 := w) w.heap.size (by rfl) (.tmp 25) (.tmp 35) 276 280 (.agg #[.int .i64 0, .int .i64 0, .int .i64 0]) 24 rfl Tryz.underlying276 info_nd rfl (by decide) (by omega) (.slice A L.length cap) L ⟨bt s (i : Int), (i : Int) - 1, (i : Int) + 1⟩ [.int .i64 (bt s (i : Int)), .int .i64 ((i : Int) - 1), .int .i64 ((i : Int) + 1)] (fun _ => True) (fun _ => False) rfl ?aX ?aP (fun _ hk => hk.elim) (fun _ _ => trivial) HL3.out.rows HB3.out HB3.out.size (by have := HS.out; have := HLN.out; omega) ?_
   (case aX => exact rfl)
   (case aP => exact kNd_mkM _ _ _ ⟨bt s (i : Int), (i : Int) - 1, (i : Int) + 1⟩)
   intro v1 w4 ho hb4 hg hat
   obtain ⟨A1, k1, rfl⟩ := Kd.R_slice ho
   have HB4 := As.mk hb4
   have HT4 := As.mk (HL3.out.told hg ho)
   have HQ4 := As.mk ((HpOf.grown HQ3.out HL3.out hg).far (blk_grown HL3.out.blk hg (Kd.R_ne HL3.out.rows HL3.out.blk (by decide))) (by omega) (by decide) 1 (.slice A1 (L ++ [(⟨bt s (i : Int), (i : Int) - 1, (i : Int) + 1⟩ : Nd)]).length k1))
   have hfz := blk_frozen (blk_grown HL3.out.blk hg (Kd.R_ne HL3.out.rows HL3.out.blk (by decide))) 1
   have hS4 := cell_grown hg HH30.out (Kd.R_ne HL3.out.rows HL3.out.blk (by decide))
   clear hb4 hg hat ho
   refine hK.out _ _ hS4 (fun hHeld => ?_)
   clear hK K
   refine norm_ (a' := ?_) ?_ ?_
   rotate_left
   ·(show Act.put _ (some 36) _ = _; simp only [Act.put, List.setIfInBounds_toArray, List.set_cons_zero, List.set_cons_succ]; rfl)
   refine pI 16 (some 37) (bs 19 131071) ?_
   refine pI 17 (some 38) (bs 19 262143) ?_
   refine last_ (i := 18) (N := none) (bs 19 524287) rfl rfl (by kernel_rfl) (by decide) (fun K hK => ?_)
   refine skip_ (w1 := w4.setCell ⟨w.heap.size + 1, 1, none⟩ (.slice A1 (L ++ [(⟨bt s (i : Int), (i : Int) - 1, (i : Int) + 1⟩ : Nd)]).length k1)) (by rfl) rfl ?_ ?_
   ·first | (go_simp; done) | (go_simp; rfl)
   refine hK.out _ _ ?_
   clear hK K
   refine done_ (by kernel_rfl) ?_
   rw [← HSU.out] at HT4 HQ4 ⊢
   have HB5 := As.mk (HB4.out.setCell (p := ⟨w.heap.size + 1, 1, none⟩) (Nat.le_succ _) (.slice A1 L2.length k1))
   clear hw0 hw1 hw2 HL3 HQ3 HB3 HH30 HB4 hHeld hfz
   generalize w4.setCell ⟨w.heap.size + 1, 1, none⟩ (.slice A1 L2.length k1) = w5 at *
   go_wp2
   go_roundg f
   case measure => omega
   case rel => exact ⟨i + 1, .slice A1 L2.length k1, w5, by go_num, by omega, ⟨rfl⟩, ⟨by have := HK.out; omega⟩, ⟨by rw [HL2.out]; exact HT4.out⟩, HQ4, HB5⟩
  ·obtain rfl : i = s.size := by omega
   clear HK hlt
   have HGO0 := As.mk (fun i (h : i < s.size) => nodes_goes s h)
   have HNL := As.mk (nodesN_len s s.size)
   have HNFL := As.mk (nodesF_len s)
   by_cases h0 : s.size = 0
   ·have hL0 : nodesN s s.size = [] := List.eq_nil_of_length_eq_zero (by rw [nodesN_len]; exact h0)
    have hF0 : nodesF s = [] := List.eq_nil_of_length_eq_zero (by rw [nodesF_len]; exact h0)
    rw [hL0] at HL
    have HLN := As.mk (show ([] : List Nd).length = s.size from h0.symm)
    have HNF := As.mk hF0
    have HZ := As.mk h0
    obtain ⟨A, cap, rfl⟩ := Kd.R_slice HL.out.rows
    have c1 := HL.out.c.2.1
    have hzi : (s.size : Int) = 0 := by omega
    clear hL0 hF0 h0 HNL HNFL HGO0
    go_wp2_with fail
    have c2 := c1
    go_loopg [60] 0 (fun f v60 w' => v60 = .int .i64 0 ∧ As (W = w'))
    case atStart => exact ⟨rfl, ⟨rfl⟩⟩
    case round =>
     obtain ⟨rfl, HW⟩ := hrel
     have hW := HW.out
     subst hW
     clear HW
     go_wp2
     go_ret
     exact ⟨_, rfl, ⟨w.heap.size, _, [], by rw [HNF.out]; exact HL.out, by rw [HZ.out]; exact HQ.out, by rw [HNF.out, HZ.out]; exact AskedTo.zero _ _ _⟩, HB.out⟩
   ·obtain ⟨k, hk⟩ : ∃ k, s.size = k + 1 := ⟨s.size - 1, by omega⟩
    obtain ⟨g, cap, rfl, hbg, hgl, hgc, hgq, hcap, cells, hg⟩ := HL.out.form (by rw [nodesN_len]; omega)
    have hx : (nodesN s s.size)[k]? = some ⟨bt s (k : Int), (k : Int) - 1, (k : Int) + 1⟩ := by unfold nodesN; rw [List.getElem?_map, List.getElem?_range (by omega)]; rfl
    obtain ⟨p1, p2, ⟨cs1, p3⟩, p4⟩ := HL.out.put hx 2 (.int .i64 (-1)) ⟨bt s (k : Int), (k : Int) - 1, -1⟩ (by decide) rfl
    rw [nodes_last s hk] at p1
    have HL1 := As.mk p1
    have HB1 := As.mk (HB.out.trans p2)
    have HQ1 := As.mk (HQ.out.far p3 p4 (by decide) (k * 3 + 2) (.int .i64 (-1)))
    have c1 := HL.out.c.2.1
    have a2 := (HL.out.elem hx).1 2 _ rfl
    have az := (HL.out.elem hx).2 2
    have hlenI : ((nodesN s s.size).length : Int) = (k : Int) + 1 := by rw [nodesN_len]; omega
    have hlen0 : (0 : Int) < ((nodesN s s.size).length : Int) := by omega
    have hlen1 : ((nodesN s s.size).length : Int) - 1 = (k : Int) := by omega
    have hkI : (k : Int) < ((nodesN s s.size).length : Int) := by omega
    have hk0 : (0 : Int) ≤ (k : Int) := by omega
    have hlenB : ((nodesN s s.size).length : Int) ≤ 200000000 := by have := HS.out; rw [nodesN_len]; omega
    have HLEN := As.mk (show (nodesN s s.size).length = (nodesF s).length by rw [nodesN_len, nodesF_len])
    have HKK := As.mk hk
    clear p1 p2 p3 p4 hx hg h0 hk hlenI
    generalize nodesN s s.size = L0 at *
    generalize hNF : nodesF s = L at *
    have HNF := As.mk hNF
    have HLN := As.mk HNFL.out
    have HGO := HGO0
    clear hNF HGO0 HNL HNFL HL HQ HB
    have c11 := HL1.out.c.2.1
    have hL0B : As (L0.length = s.size) := ⟨HLEN.out.trans HLN.out⟩
    go_wp2_with fail
    clear c1 a2 az c11
    generalize W.setCell ⟨g, k * 3 + 2, none⟩ (.int .i64 (-1)) = w2 at *
    go_loopg [60] s.size (fun f v60 w' => ∃ (i : Nat) (H : List (Th Wx)) (W : World), v60 = .int .i64 (i : Int) ∧ i ≤ s.size ∧ As (W = w') ∧ As (s.size ≤ i + f) ∧ As (LkAt W w.heap.size (w.heap.size + 1) (.slice (some ⟨g, 0, none⟩) L0.length cap) pt w.heap.size lim 0 L) ∧ As (HpOf W w.heap.size w.heap.size i H) ∧ As (AskedTo E lim L i H) ∧ As (Below w.heap.size w W))
    case atStart => exact ⟨0, [], w2, rfl, Nat.zero_le _, ⟨rfl⟩, ⟨by omega⟩, HL1, HQ1, ⟨AskedTo.zero _ _ _⟩, HB1⟩
    case round =>
     clear HL1 HQ1 HB1
     obtain ⟨i, H, W, rfl, hi, HW, HK, HL, HQ, HAT, HB⟩ := hrel
     have hW := HW.out
     subst hW
     clear HW
     by_cases hlt : i < s.size
     ·obtain ⟨f, rfl⟩ : ∃ f, gk = f + 1 := ⟨gk - 1, by have := HK.out; omega⟩
      have hltI : (i : Int) < (L0.length : Int) := by have := hL0B.out; omega
      have hiB : (i : Int) ≤ 200000000 := by have := HS.out; omega
      obtain ⟨n, hn1, hn2⟩ := HGO.out i hlt
      have HN := As.mk (And.intro hn1 hn2)
      clear hn1 hn2
      go_wp2_with (go_at_call 178; refine (asks_any HL.out HQ.out (HTT.out.below HB.out) (i : Int) (.inr ⟨i, n, rfl, HN.out.1, HN.out.2⟩) (by have := HAT.out.many; have := HS.out; omega) (by have := HS.out; omega)).mono ?_; rintro e w8 ⟨rfl, hask⟩; have HL8 := As.mk hask.link; have HB8 := As.mk (HB.out.trans hask.below); obtain ⟨H1, hh1, hh2⟩ := hask.queue; have HA8 := As.mk (HAT.out.step hh1); have HQ8 := As.mk hh2; clear hask hh1 hh2)
      go_roundg f
      case measure => omega
      case rel => exact ⟨i + 1, H1, w8, by go_num, by omega, ⟨rfl⟩, ⟨by have := HK.out; omega⟩, HL8, HQ8, HA8, HB8⟩
     ·obtain rfl : i = s.size := by omega
      have hltI : ¬ (s.size : Int) < (L0.length : Int) := by have := hL0B.out; omega
      go_wp2
      go_ret
      exact ⟨_, rfl, ⟨w.heap.size, _, H, by rw [HNF.out]; exact HL.out, HQ.out, by rw [HNF.out]; exact HAT.out⟩, HB.out⟩
end Go.Proofs.YtkffhgiiejbnaaaGreat.Ch
