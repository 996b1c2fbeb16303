import Derived.Test.YtkffhgiiejbnaaaGreatQSkF
set_option maxRecDepth 100000
set_option maxHeartbeats 4000000
set_option linter.unusedVariables false
set_option linter.unusedSimpArgs false
namespace Go.Proofs.YtkffhgiiejbnaaaGreat.Sk
open Go.Shelf Go.RowKit YtkffhgiiejbnaaaGreatW.PrintWords YtkffhgiiejbnaaaGreatW.PrintLast YtkffhgiiejbnaaaGreatW.PrintMore Rf Aid Mp Hp Tk Vc En
theorem info_mt : (Tryz.prog.info? 65).map (fun i => (i.zero, i.size, i.bytes)) = some (some (.agg #[.int .i64 0, .int .i64 0, .int .i64 0, .bool false]), 4, 32) := by kernel_rfl
def atF (p xs : List Int) (j : Nat) : Int := (xs.length : Int) + (j : Int) + 1 - (p.length : Int)
def hitF (p xs : List Int) (L : List (Int × Int)) (T : Nat) (its : List Int) (j : Nat) : List S65 :=
 if metF p (xs ++ its.take (j + 1)) = p.length then [⟨atF p xs j, (firstF L (atF p xs j)).1, (T : Int), (firstF L (atF p xs j)).2 == atF p xs j && ((j : Int) + 1 == (its.length : Int))⟩] else []
theorem hit_len (p xs : List Int) (L : List (Int × Int)) (T : Nat) (its : List Int) : ∀ j, ((List.range j).flatMap (hitF p xs L T its)).length ≤ j
 | 0 => Nat.le_refl _
 | j + 1 => by
  rw [List.range_succ, List.flatMap_append, List.length_append]
  have := hit_len p xs L T its j
  have h2 : (hitF p xs L T its j).length ≤ 1 := by unfold hitF; split <;> simp
  simp
  simp at this
  omega
theorem hit_next (p xs : List Int) (L : List (Int × Int)) (T : Nat) (its : List Int) (j : Nat) : (List.range (j + 1)).flatMap (hitF p xs L T its) = (List.range j).flatMap (hitF p xs L T its) ++ hitF p xs L T its j := by
 rw [List.range_succ, List.flatMap_append]
 simp
theorem sk_ne {W : World} {base d : Nat} {ok : Nat → Prop} {lv : Value} {l : List (Int × Int)} {cs : Array Value} (h : Kd.R kPl 179 W base ok lv l) (hb : W.heap[d]? = some (.cells cs 119 (0, 0))) : some d ≠ lv.ownBlock := fun e => by
 obtain ⟨_, _, _, q, hq, cells, hc⟩ := (Kd.R_bound h).1 d e.symm
 rw [hb] at hc
 injection hc with hc
 injection hc with _ ht' _
 have hq2 : q = 179 := List.mem_singleton.1 hq
 rw [hq2] at ht'
 exact absurd ht' (by decide)
def Far (W W' : World) : Prop := ∀ (k : Nat) (cs : Array Value) (q : Nat), W.heap[k]? = some (.cells cs q (0, 0)) → q ≠ 65 → W'.heap[k]? = W.heap[k]?
theorem match_far {W W' : World} {u : Value} {base : Nat} {ok : Nat → Prop} {l : List S65} (hu : Kd.R k65 65 W base ok u l) (hg : W.grownBy W' u.ownBlock) : Far W W' := fun k cs q hk hq => hg.block k (blk_lt hk) (fun e => by
 obtain ⟨_, _, _, q', hq', cells, hc⟩ := (Kd.R_bound hu).1 k e.symm
 rw [hk] at hc
 injection hc with hc
 injection hc with _ ht _
 exact hq (ht.trans (List.mem_singleton.1 hq')))
theorem R_far {α : Type} {kd : Kd α} {e : Nat} {W W' : World} {base : Nat} {ok : Nat → Prop} {v : Value} {xs : List α} (f : Far W W') (h : Kd.R kd e W base ok v xs) (hq : ∀ q, q ∈ e :: kd.E → q ≠ 65) : Kd.R kd e W' base ok v xs :=
 Kd.R_mono (Kd.R_move (Kd.R_bound h) (fun j hj => by
  obtain ⟨_, _, _, q, hq', cells, hc⟩ := hj
  exact f j _ q hc (hq q hq'))) (fun _ hk => hk.1)
theorem SkAt.far {w w' : World} {d v : Nat} {Ap : Option Addr} {cp g : Nat} {lv : Value} {p xs : List Int} {T : Nat} {last : List (Int × Int)} (h : SkAt w d v Ap cp g lv p xs T last) (f : Far w w') : SkAt w' d v Ap cp g lv p xs T last :=
 ⟨(f _ _ _ h.blk (by decide)).trans h.blk, R_far f h.hp (fun q hq => by rw [List.mem_singleton.1 hq]; decide), R_far f h.hb (fun q hq => by rw [List.mem_singleton.1 hq]; decide), R_far f h.hl (fun q hq => by rw [List.mem_singleton.1 hq]; decide)⟩
theorem Kp.far {d : Nat} {w W W' : World} {row : Option Nat} (k : Kp d w W) (hg : W.grownBy W' row) (hr : ∀ j, row = some j → w.heap.size ≤ j) (hd : d ≤ w.heap.size) : Kp d w W' :=
 ⟨k.1.trans ((Below.refl d W).grown hg (Nat.le_trans hd k.1.size) (fun j e => Nat.le_trans hd (hr j e))), fun i o ho h1 h2 => (hg.block i (Nat.lt_of_lt_of_le (Array.getElem?_eq_some_iff.1 ho).1 k.1.size) (fun e => by
  have := hr i e.symm
  have := (Array.getElem?_eq_some_iff.1 ho).1
  omega)).trans (k.2 i o ho h1 h2)⟩
theorem forgetL_len (pl it : Int) (l : List (Int × Int)) : (forgetL pl it l).length ≤ l.length := by unfold forgetL; rw [List.length_drop]; omega
theorem token_sk {w : World} {d v : Nat} {Ap : Option Addr} {cp g : Nat} {lv : Value} {p xs : List Int} {T : Nat} {last : List (Int × Int)} (h : SkAt w d v Ap cp g lv p xs T last) (hp : p ≠ []) (hpl : p.length ≤ 64) (hl : last.length ≤ 1000000) (hx : ∀ x ∈ last, 0 ≤ x.2 ∧ x.2 ≤ (xs.length : Int)) (hxl : xs.length ≤ 1000000000) (hT : T ≤ 1000000000)
  {A : Option Addr} {c : Nat} {its : List Int} (hi : Rw w (.slice A its.length c) its) (hil : its.length ≤ 1000000) :
  Calls Tryz.prog 71 #[.pointer (some ⟨d, 0, none⟩), .slice A its.length c] w fun e w' => ∃ u lv', e = .returned u ∧ Kd.R k65 65 w' w.heap.size (fun _ => True) u ((List.range its.length).flatMap (hitF p xs (forgetL (p.length : Int) (xs.length : Int) last ++ [((T : Int), (xs.length : Int))]) T its)) ∧ SkAt w' d v Ap cp g lv' p (xs ++ its) (T + 1) (forgetL (p.length : Int) (xs.length : Int) last ++ [((T : Int), (xs.length : Int))]) ∧ Kp d w w' := by
 have HFG := As.mk (forget_sk h (by omega) (by omega) (fun x hm => ⟨(hx x hm).1, by have := (hx x hm).2; omega⟩))
 have HP := As.mk hp
 have HL := As.mk hpl
 have HI0 := As.mk hi
 have HIL := As.mk hil
 have HXL := As.mk (And.intro hxl hT)
 have HDW := As.mk (Nat.le_of_lt (blk_lt h.blk))
 have HFL := As.mk (Nat.le_trans (forgetL_len (p.length : Int) (xs.length : Int) last) hl)
 clear h hp hx hi hl
 go_enter Tryz.func71, Tryz.ntmps71
 go_wp2_with (go_at_call 100; refine HFG.out.mono ?_; rintro e w1 ⟨rfl, lv1, hs, hk⟩; have HS1 := As.mk hs; have HK1 := As.mk hk; clear hs hk)
 refine start_ (n := 19) (S := fun w' => w'.heap[d]? = some (.cells #[.slice Ap p.length cp, .slice (some ⟨g, 0, none⟩) (p.length + 1) (p.length + 1), .pointer (some ⟨v, 0, none⟩), .int .i64 ((metF p xs : Nat) : Int), .int .i64 (xs.length : Int), .int .i64 (T : Int), lv1] 119 (0, 0))) (ds := [18]) #[false, false, false, false, false, false, false, false, false, false, false, false, false, false, false, false, false, false, false] (by kernel_rfl) rfl rfl (((below_drew1 (Below.refl w1.heap.size w1)).block _ (blk_lt HS1.out.blk)).trans HS1.out.blk) (fun hHeld => ?_)
 have HD3 := As.mk (below_drew1 (Below.refl w1.heap.size w1)); clear hHeld; generalize w1.drew = w3 at HD3 ⊢; have hHeld := (HD3.out.block _ (blk_lt HS1.out.blk)).trans HS1.out.blk
 refine pI 0 (some 12) (bs 19 1) ?_
 refine pI 1 (some 13) (bs 19 3) ?_
 refine pI 2 (some 14) (bs 19 7) ?_
 refine pI 3 (some 15) (bs 19 15) ?_
 refine pI 5 (some 17) (bs 19 47) ?_
 refine pI 6 (some 18) (bs 19 111) ?_
 refine pI 7 (some 19) (bs 19 239) ?_
 refine pI 9 (some 21) (bs 19 751) ?_
 refine pI 10 (some 22) (bs 19 1775) ?_
 refine pI 11 (some 23) (bs 19 3823) ?_
 refine tI 4 (some 16) (bs 19 3839) rfl (by intro w' hS'; have s0 := hS'; have c0 := cell_of (i := 0) hS' rfl; have c1 := cell_of (i := 1) hS' rfl; have c3 := cell_of (i := 3) hS' rfl; have c4 := cell_of (i := 4) hS' rfl; have c5 := cell_of (i := 5) hS' rfl; have c6 := cell_of (i := 6) hS' rfl; go_simp; with_reducible rfl) hHeld ?_
 refine tI 8 (some 20) (bs 19 4095) rfl (by intro w' hS'; have s0 := hS'; have c0 := cell_of (i := 0) hS' rfl; have c1 := cell_of (i := 1) hS' rfl; have c3 := cell_of (i := 3) hS' rfl; have c4 := cell_of (i := 4) hS' rfl; have c5 := cell_of (i := 5) hS' rfl; have c6 := cell_of (i := 6) hS' rfl; go_simp; with_reducible rfl) hHeld ?_
 refine tI 12 (some 24) (bs 19 8191) rfl (by intro w' hS'; have s0 := hS'; have c0 := cell_of (i := 0) hS' rfl; have c1 := cell_of (i := 1) hS' rfl; have c3 := cell_of (i := 3) hS' rfl; have c4 := cell_of (i := 4) hS' rfl; have c5 := cell_of (i := 5) hS' rfl; have c6 := cell_of (i := 6) hS' rfl; go_simp; with_reducible rfl) hHeld ?_
 refine pI 13 (some 25) (bs 19 16383) ?_
 refine one_ (i := 14) (N := some 26) (bs 19 32767) rfl rfl (by kernel_rfl) (by decide) (fun K hK => ?_)
 have hb3 := (HD3.out.block _ (blk_lt HS1.out.blk)).trans HS1.out.blk
 refine value_ (w1 := w3.alloc (.cells #[.int .i64 (T : Int), .int .i64 (xs.length : Int)] 179)) (v := .slice (some ⟨w3.heap.size, 0, none⟩) 1 1) (by rfl) rfl ?_ ?_
 ·first | (go_simp; done) | (go_simp; rfl)
 refine hK.out _ _ (((below_alloc (Below.refl w3.heap.size w3) (.cells #[.int .i64 (T : Int), .int .i64 (xs.length : Int)] 179)).block _ (blk_lt hb3)).trans hb3) (fun _ => ?_)
 clear hK K
 refine nI ?_
 refine one_ (i := 15) (N := some 27) (bs 19 65535) rfl rfl (by kernel_rfl) (by decide) (fun K hK => ?_)
 refine Kd.R_append_step kPl (w0 := w3) d (by rfl) (.tmp 16) (.tmp 26) 117 179 (.agg #[.int .i64 0, .int .i64 0]) 16 rfl Tryz.underlying117 info_pl rfl (by decide) (by omega) lv1 (forgetL (p.length : Int) (xs.length : Int) last) ((T : Int), (xs.length : Int)) [.int .i64 (T : Int), .int .i64 (xs.length : Int)] (fun _ => True) (fun _ => False) (by rfl) (by rfl) rfl (fun _ hk => hk.elim) (fun _ _ => trivial) (Kd.R_below HS1.out.hl HD3.out) (Below.refl _ _) (Nat.le_of_lt (blk_lt hb3)) (by have := HFL.out; omega) ?_
 intro u4 w4 ho hb hg hat
 obtain ⟨A4, c4', hu4⟩ := Kd.R_slice ho
 obtain ⟨n4, hn4⟩ : ∃ n, n = (forgetL (p.length : Int) (xs.length : Int) last ++ [((T : Int), (xs.length : Int))]).length := ⟨_, rfl⟩
 rw [← hn4] at hu4
 subst hu4
 have hb4 := (hg.block _ (blk_lt hb3) (sk_ne (Kd.R_below HS1.out.hl HD3.out) hb3)).trans hb3
 have HO4 := As.mk ho
 have HB4 := As.mk hb4
 have HK4 := As.mk ((Kp.of HD3.out (Nat.le_of_lt (blk_lt HS1.out.blk))).trans (Kp.grow (Kd.R_below HS1.out.hl HD3.out) hg (Nat.le_of_lt (blk_lt hb3))))
 clear ho hb hg hat hn4 hb3
 refine hK.out _ _ hb4 (fun _ => ?_)
 clear hK K
 refine nI ?_
 refine pI 16 (some 28) (bs 19 131071) ?_
 refine pI 17 (some 29) (bs 19 262143) ?_
 refine last_ (i := 18) (N := none) (bs 19 524287) rfl rfl (by kernel_rfl) (by decide) (fun K hK => ?_)
 have z4 := cell_of (i := 6) HB4.out rfl
 have z5 := frozen_of HB4.out 6
 refine skip_ (w1 := w4.setCell ⟨d, 6, none⟩ (.slice A4 n4 c4')) (by rfl) rfl ?_ ?_
 ·first | (go_simp; done) | (go_simp; rfl)
 refine hK.out _ _ ?_
 clear hK K
 refine done_ (by kernel_rfl) ?_
 have HK5 := As.mk (HK1.out.trans (HK4.out.trans (Kp.set HB4.out 6 (.slice A4 n4 c4'))))
 have HS5 := As.mk (HS1.out.kp (T' := T) (xs' := xs) (HK4.out.trans (Kp.set HB4.out 6 (.slice A4 n4 c4'))) (blk_put HB4.out 6 _ rfl) (Kd.R_set HO4.out HB4.out (by decide) 6 _))
 have HI5 := As.mk (HK5.out.rw HI0.out)
 have HZ5 := As.mk HK5.out.1.size
 clear HB4 HO4 HS1 HK1 HK4 HI0 HFG z4 z5 HD3
 generalize w4.setCell ⟨d, 6, none⟩ (.slice A4 n4 c4') = w5 at HK5 HS5 HI5 HZ5 ⊢
 obtain ⟨L2, hL2⟩ : ∃ L2, L2 = forgetL (p.length : Int) (xs.length : Int) last ++ [((T : Int), (xs.length : Int))] := ⟨_, rfl⟩
 have HL2 := As.mk hL2
 rw [← hL2] at HS5
 clear hL2
 go_wp2_with fail
 obtain ⟨lv2, hlv2⟩ : ∃ lv2, lv2 = Value.slice A4 n4 c4' := ⟨_, rfl⟩
 rw [← hlv2] at HS5
 clear hlv2
 go_loopg [5, 32] its.length (fun k v5 v32 W => ∃ (j : Nat), v32 = .int .i64 (j : Int) ∧ j ≤ its.length ∧ As (its.length - j ≤ k) ∧ As (SkAt W d v Ap cp g lv2 p (xs ++ its.take j) T L2) ∧ As (Kp d w W) ∧ As (Kd.R k65 65 W w.heap.size (fun _ => True) v5 ((List.range j).flatMap (hitF p xs L2 T its))) ∧ As (Rw W (.slice A its.length c) its))
 case atStart => exact ⟨0, rfl, Nat.zero_le _, ⟨by omega⟩, ⟨by rw [List.take_zero, List.append_nil]; exact HS5.out⟩, HK5, ⟨Kd.R_nil _ _ _ _ _⟩, HI5⟩
 case round =>
  clear HS5 HK5 HI5 HZ5
  obtain ⟨j, rfl, hj, HK, HSJ, HKJ, HO, HI⟩ := hrel
  rename World => W
  by_cases hlt : j < its.length
  ·have hltI : (j : Int) < (its.length : Int) := by omega
   obtain ⟨k1, rfl⟩ : ∃ k1, gk = k1 + 1 := ⟨gk - 1, by have := HK.out; omega⟩
   obtain ⟨y, hy⟩ : ∃ y, its[j]? = some y := ⟨_, List.getElem?_eq_getElem hlt⟩
   obtain ⟨ad, rfl, xr⟩ := rd_at HI.out.rd.2.2 hy
   have hXN : xs ++ its.take (j + 1) = (xs ++ its.take j) ++ [y] := by rw [List.take_add_one, hy, List.append_assoc]; rfl
   have hXL : ((xs ++ its.take j).length : Int) = (xs.length : Int) + (j : Int) := by rw [List.length_append, List.length_take]; omega
   have HXN := As.mk hXN
   have HXJ := As.mk hXL
   clear hy hXN hXL
   obtain ⟨XJ, hXJ⟩ : ∃ XJ, XJ = xs ++ its.take j := ⟨_, rfl⟩
   rw [← hXJ] at HSJ HXN HXJ
   clear hXJ
   have hwN : wrap64 ((XJ.length : Int) + 1) = (XJ.length : Int) + 1 := by have h1 := HXJ.out; have h2 := HXL.out; exact w64 (by omega) (by omega)
   go_wp2_with fail
   clear xr
   refine start_ (n := 14) (S := fun w' => w'.heap[d]? = some (.cells #[.slice Ap p.length cp, .slice (some ⟨g, 0, none⟩) (p.length + 1) (p.length + 1), .pointer (some ⟨v, 0, none⟩), .int .i64 ((metF p XJ : Nat) : Int), .int .i64 (XJ.length : Int), .int .i64 (T : Int), lv2] 119 (0, 0))) (ds := [13]) #[false, false, false, false, false, false, false, false, false, false, false, false, false, false] (by kernel_rfl) rfl rfl (((below_drew1 (Below.refl W.heap.size W)).block _ (blk_lt HSJ.out.blk)).trans HSJ.out.blk) (fun hHeld => ?_)
   have HD7 := As.mk (below_drew1 (Below.refl W.heap.size W)); clear hHeld; generalize W.drew = w7 at HD7 ⊢; have hHeld := (HD7.out.block _ (blk_lt HSJ.out.blk)).trans HSJ.out.blk
   refine pI 0 (some 37) (bs 14 1) ?_
   refine pI 1 (some 38) (bs 14 3) ?_
   refine pI 2 (some 39) (bs 14 7) ?_
   refine pI 3 (some 40) (bs 14 15) ?_
   refine pI 5 (some 42) (bs 14 47) ?_
   refine pI 6 (some 43) (bs 14 111) ?_
   refine pI 7 (some 44) (bs 14 239) ?_
   refine pI 9 (some 46) (bs 14 751) ?_
   refine tI 4 (some 41) (bs 14 767) rfl (by intro w' hS'; have s0 := hS'; have c0 := cell_of (i := 0) hS' rfl; have c1 := cell_of (i := 1) hS' rfl; have c3 := cell_of (i := 3) hS' rfl; have c4 := cell_of (i := 4) hS' rfl; have c5 := cell_of (i := 5) hS' rfl; have c6 := cell_of (i := 6) hS' rfl; go_simp; with_reducible rfl) hHeld ?_
   refine tI 8 (some 45) (bs 14 1023) rfl (by intro w' hS'; have s0 := hS'; have c0 := cell_of (i := 0) hS' rfl; have c1 := cell_of (i := 1) hS' rfl; have c3 := cell_of (i := 3) hS' rfl; have c4 := cell_of (i := 4) hS' rfl; have c5 := cell_of (i := 5) hS' rfl; have c6 := cell_of (i := 6) hS' rfl; go_simp; with_reducible rfl) hHeld ?_
   refine one_ (i := 10) (N := some 47) (bs 14 2047) rfl rfl (by kernel_rfl) (by decide) (fun K hK => ?_)
   refine goes_ Tryz.func101 (by kernel_rfl) rfl #[.agg #[.slice Ap p.length cp, .slice (some ⟨g, 0, none⟩) (p.length + 1) (p.length + 1)], .int .i64 ((metF p XJ : Nat) : Int), .int .i64 y] (by rfl) rfl rfl (by simp [Act.eval]) ?_
   have hs7 := HSJ.out.below HD7.out
   have hst := step_any (p := p) (B := bkL p) (n := y) (k := metF p XJ) (c2 := p.length + 1) (m := p.length + 1) HP.out (bkL_len p) (by have := HL.out; omega) (metF_le p XJ) (fun j _ h2 => bkL_at (Nat.le_trans h2 (metF_le p XJ))) w7 hs7.hp.rd.2.2 hs7.hp.rd.2.1 hs7.hb.rd.2.2 (by rw [bkL_len]; exact Nat.le_refl _) (by rw [bkL_len])
   rw [step_met HP.out (Nat.lt_succ_self _)] at hst
   refine hst.mono ?_
   clear hst hs7
   rintro e w8 ⟨rfl, hb⟩
   have HD8 := As.mk (bt_ HD7.out hb)
   clear hb
   refine ⟨_, rfl, ?_⟩
   refine hK.out _ _ ((HD8.out.block _ (blk_lt HSJ.out.blk)).trans HSJ.out.blk) (fun _ => ?_)
   clear hK K
   refine nI ?_
   refine pI 11 (some 48) (bs 14 4095) ?_
   refine pI 12 (some 49) (bs 14 8191) ?_
   refine last_ (i := 13) (N := none) (bs 14 16383) rfl rfl (by kernel_rfl) (by decide) (fun K hK => ?_)
   have hb8 := (HD8.out.block _ (blk_lt HSJ.out.blk)).trans HSJ.out.blk
   have z4 := cell_of (i := 3) hb8 rfl
   have z5 := frozen_of hb8 3
   refine skip_ (w1 := w8.setCell ⟨d, 3, none⟩ (.int .i64 ((metF p (XJ ++ [y]) : Nat) : Int))) (by rfl) rfl ?_ ?_
   ·first | (go_simp; done) | (go_simp; rfl)
   refine hK.out _ _ ?_
   clear hK K
   refine done_ (by kernel_rfl) ?_
   have hb9 := blk_put hb8 3 (.int .i64 ((metF p (XJ ++ [y]) : Nat) : Int)) rfl
   have HK9 := As.mk (Kp.trans (Kp.of HD8.out (Nat.le_of_lt (blk_lt HSJ.out.blk))) (Kp.set hb8 3 (.int .i64 ((metF p (XJ ++ [y]) : Nat) : Int))))
   have HL9 := As.mk (Kd.R_set (Kd.R_below HSJ.out.hl HD8.out) hb8 (by decide) 3 (.int .i64 ((metF p (XJ ++ [y]) : Nat) : Int)))
   have HO9 := As.mk (Kd.R_set (Kd.R_below HO.out HD8.out) hb8 (by decide) 3 (.int .i64 ((metF p (XJ ++ [y]) : Nat) : Int)))
   have HB9 := As.mk hb9
   clear hb8 hb9 z4 z5 HO
   generalize w8.setCell ⟨d, 3, none⟩ (.int .i64 ((metF p (XJ ++ [y]) : Nat) : Int)) = w9 at HK9 HL9 HO9 HB9 ⊢
   have c4 := cell_of (i := 4) HB9.out rfl
   have f4 := frozen_of HB9.out 4
   go_wp2_with fail
   clear c4 f4
   have hlen : ((XJ ++ [y]).length : Int) = (XJ.length : Int) + 1 := by simp
   have HSN := As.mk (HSJ.out.kp (xs' := XJ ++ [y]) (T' := T) (HK9.out.trans (Kp.set HB9.out 4 (.int .i64 ((XJ.length : Int) + 1)))) (by rw [hlen]; exact blk_put HB9.out 4 _ rfl) (Kd.R_set HL9.out HB9.out (by decide) 4 (.int .i64 ((XJ.length : Int) + 1))))
   have HKN := As.mk (HKJ.out.trans (HK9.out.trans (Kp.set HB9.out 4 (.int .i64 ((XJ.length : Int) + 1)))))
   have HON := As.mk (Kd.R_set HO9.out HB9.out (by decide) 4 (.int .i64 ((XJ.length : Int) + 1)))
   have HIN := As.mk ((HK9.out.trans (Kp.set HB9.out 4 (.int .i64 ((XJ.length : Int) + 1)))).rw HI.out)
   have HZ := As.mk HKN.out.1.size
   clear HSJ HKJ HO9 HI HK9 HL9 HB9 hlen
   generalize w9.setCell ⟨d, 4, none⟩ (.int .i64 ((XJ.length : Int) + 1)) = w10 at HSN HKN HON HIN HZ ⊢
   rw [← HXN.out] at HSN
   obtain ⟨XN, hXN⟩ : ∃ XN, XN = xs ++ its.take (j + 1) := ⟨_, rfl⟩
   have hXNL : (XN.length : Int) = (xs.length : Int) + (j : Int) + 1 := by rw [hXN, List.length_append, List.length_take]; omega
   by_cases hm : metF p XN = p.length
   ·have hd1 : (((metF p XN : Nat) : Int) == (p.length : Int)) = true := by rw [hm]; simp
    obtain ⟨AT, hAT⟩ : ∃ AT, AT = atF p xs j := ⟨_, rfl⟩
    have hwA : wrap64 ((XN.length : Int) - (p.length : Int)) = AT := by
     rw [hAT]
     unfold atF
     have h2 := HXL.out
     rw [hXNL]
     exact w64 (by omega) (by omega)
    obtain ⟨f1, hf1⟩ : ∃ f1, f1 = (firstF L2 AT).1 := ⟨_, rfl⟩
    obtain ⟨f2, hf2⟩ : ∃ f2, f2 = (firstF L2 AT).2 := ⟨_, rfl⟩
    have hh : hitF p xs L2 T its j = [⟨AT, f1, (T : Int), f2 == AT && ((j : Int) + 1 == (its.length : Int))⟩] := by
     unfold hitF
     rw [← hXN, if_pos hm, ← hAT, ← hf1, ← hf2]
    have HH := As.mk hh
    rw [← hXN] at HSN
    have HXN2 := As.mk hXN
    have HL2L := As.mk (show L2.length ≤ 1000000000 by rw [HL2.out, List.length_append, List.length_singleton]; have := HFL.out; omega)
    have hwj : wrap64 ((j : Int) + 1) = (j : Int) + 1 := w64 (by omega) (by have := HIL.out; omega)
    have HFF := As.mk (And.intro hf1 hf2)
    clear hm hh hXN hXNL hAT hf1 hf2
    go_wp2_with fail
    refine start_ (n := 11) (S := fun w' => Below w10.heap.size w10 w') (ds := []) #[false, false, false, false, false, false, false, false, false, false, false] (by kernel_rfl) rfl rfl (below_drew1 (Below.refl _ _)) (fun hHeld => ?_)
    have HD11 := As.mk (below_drew1 (Below.refl w10.heap.size w10)); clear hHeld; generalize w10.drew = w11 at HD11 ⊢; have hHeld := HD11.out
    refine pI 0 (some 57) (bs 11 1) ?_
    refine pI 1 (some 58) (bs 11 3) ?_
    refine pI 2 (some 59) (bs 11 7) ?_
    refine pI 4 (some 61) (bs 11 23) ?_
    refine pI 5 (some 62) (bs 11 55) ?_
    refine pI 6 (some 63) (bs 11 119) ?_
    refine pI 7 (some 64) (bs 11 247) ?_
    refine tI 3 (some 60) (bs 11 255) rfl (by intro w' hS'; have s0 := hS'; have hbq := (hS'.block _ (blk_lt HSN.out.blk)).trans HSN.out.blk; have c0 := cell_of (i := 0) hbq rfl; have c3 := cell_of (i := 3) hbq rfl; have c4 := cell_of (i := 4) hbq rfl; have c5 := cell_of (i := 5) hbq rfl; go_simp; with_reducible rfl) hHeld ?_
    refine tI 8 (some 65) (bs 11 511) rfl (by intro w' hS'; have s0 := hS'; have hbq := (hS'.block _ (blk_lt HSN.out.blk)).trans HSN.out.blk; have c0 := cell_of (i := 0) hbq rfl; have c3 := cell_of (i := 3) hbq rfl; have c4 := cell_of (i := 4) hbq rfl; have c5 := cell_of (i := 5) hbq rfl; go_simp; with_reducible rfl) hHeld ?_
    refine pI 9 (some 66) (bs 11 1023) ?_
    refine pI 10 (some 67) (bs 11 2047) ?_
    refine done_ (by kernel_rfl) ?_
    have HS11 := As.mk (HSN.out.below HD11.out)
    clear hd1
    go_wp2_with fail
    refine start_ (n := 12) (S := fun w' => Below w11.heap.size w11 w') (ds := []) #[false, false, false, false, false, false, false, false, false, false, false, false] (by kernel_rfl) rfl rfl (below_drew1 (Below.refl _ _)) (fun hHeld => ?_)
    have HD12 := As.mk (below_drew1 (Below.refl w11.heap.size w11)); clear hHeld; generalize w11.drew = w12 at HD12 ⊢; have hHeld := HD12.out
    refine pI 0 (some 68) (bs 12 1) ?_
    refine pI 1 (some 69) (bs 12 3) ?_
    refine pI 2 (some 70) (bs 12 7) ?_
    refine pI 4 (some 72) (bs 12 23) ?_
    refine pI 5 (some 73) (bs 12 55) ?_
    refine pI 6 (some 74) (bs 12 119) ?_
    refine pI 7 (some 75) (bs 12 247) ?_
    refine tI 3 (some 71) (bs 12 255) rfl (by intro w' hS'; have s0 := hS'; have hbq := (hS'.block _ (blk_lt HS11.out.blk)).trans HS11.out.blk; have c0 := cell_of (i := 0) hbq rfl; have c3 := cell_of (i := 3) hbq rfl; have c4 := cell_of (i := 4) hbq rfl; have c5 := cell_of (i := 5) hbq rfl; go_simp; with_reducible rfl) hHeld ?_
    refine tI 8 (some 76) (bs 12 511) rfl (by intro w' hS'; have s0 := hS'; have hbq := (hS'.block _ (blk_lt HS11.out.blk)).trans HS11.out.blk; have c0 := cell_of (i := 0) hbq rfl; have c3 := cell_of (i := 3) hbq rfl; have c4 := cell_of (i := 4) hbq rfl; have c5 := cell_of (i := 5) hbq rfl; go_simp; with_reducible rfl) hHeld ?_
    refine pI 9 (some 77) (bs 12 1023) ?_
    refine pI 10 (some 78) (bs 12 2047) ?_
    refine pI 11 (some 8) (bs 12 4095) ?_
    refine done_ (by kernel_rfl) ?_
    have HS12 := As.mk (HS11.out.below HD12.out)
    have HFS := As.mk (first_sk HS12.out HL2L.out AT)
    rw [← HFF.out.1, ← HFF.out.2] at HFS
    go_wp2_with (go_at_call 102; refine HFS.out.mono ?_; rintro e w13 ⟨rfl, hb⟩; have HD13 := As.mk (bt_ HD12.out hb); clear hb; have HN13 := As.mk (Go.MapKept.heap_alloc w13 (.cells #[.int .i64 0, .int .i64 0] 179)).1; have n0 := cell_of (i := 0) HN13.out rfl; have n1 := cell_of (i := 1) HN13.out rfl; have m0 := frozen_of HN13.out 0; have m1 := frozen_of HN13.out 1)
    have HX14 := As.mk (Go.MapKept.heap_alloc w13 (.cells #[.int .i64 f1, .int .i64 f2] 179)).1
    have HB14 := As.mk (bt_ (bt_ HD11.out HD13.out) (below_alloc (Below.refl w13.heap.size w13) (.cells #[.int .i64 f1, .int .i64 f2] 179)))
    clear n0 n1 m0 m1 HN13
    generalize w13.alloc (.cells #[.int .i64 f1, .int .i64 f2] 179) = w14 at HX14 HB14 ⊢
    have HS14 := As.mk (HSN.out.below HB14.out)
    have HO14 := As.mk (Kd.R_below HON.out HB14.out)
    have HI14 := As.mk (HIN.out.below HB14.out)
    have HK14 := As.mk (HKN.out.trans (Kp.of HB14.out (Nat.le_trans HDW.out HZ.out)))
    have HZ14 := As.mk (Nat.le_trans HZ.out HB14.out.size)
    clear HSN HKN HON HIN HZ HS11 HS12 HFS HFF HD11 HD12 HD13 HB14
    by_cases hf : f2 = AT
    ·have hq1 : (f2 == AT) = true := by simp [hf]
     have HH2 := As.mk (show hitF p xs L2 T its j = [⟨AT, f1, (T : Int), ((j : Int) + 1 == (its.length : Int))⟩] by rw [HH.out, hq1, Bool.true_and])
     clear hf HH
     refine start_ (n := 23) (S := fun w' => w'.heap[d]? = some (.cells #[.slice Ap p.length cp, .slice (some ⟨g, 0, none⟩) (p.length + 1) (p.length + 1), .pointer (some ⟨v, 0, none⟩), .int .i64 ((metF p XN : Nat) : Int), .int .i64 (XN.length : Int), .int .i64 (T : Int), lv2] 119 (0, 0)) ∧ w'.heap[w13.heap.size]? = some (.cells #[.int .i64 f1, .int .i64 f2] 179 (0, 0))) (ds := []) #[false, false, false, false, false, false, false, false, false, false, false, false, false, false, false, false, false, false, false, false, false, false, false] (by kernel_rfl) rfl rfl (⟨((below_drew1 (Below.refl w14.heap.size w14)).block _ (blk_lt HS14.out.blk)).trans HS14.out.blk, ((below_drew1 (Below.refl w14.heap.size w14)).block _ (blk_lt HX14.out)).trans HX14.out⟩) (fun hHeld => ?_)
     have HD15 := As.mk (below_drew1 (Below.refl w14.heap.size w14)); clear hHeld; generalize w14.drew = w15 at HD15 ⊢; have hHeld := And.intro ((HD15.out.block _ (blk_lt HS14.out.blk)).trans HS14.out.blk) ((HD15.out.block _ (blk_lt HX14.out)).trans HX14.out)
     refine pI 0 (some 82) (bs 23 1) ?_
     refine pI 1 (some 83) (bs 23 3) ?_
     refine pI 2 (some 84) (bs 23 7) ?_
     refine pI 4 (some 86) (bs 23 23) ?_
     refine pI 5 (some 87) (bs 23 55) ?_
     refine pI 6 (some 88) (bs 23 119) ?_
     refine pI 8 (some 90) (bs 23 375) ?_
     refine pI 10 (some 92) (bs 23 1399) ?_
     refine tI 3 (some 85) (bs 23 1407) rfl (by intro w' hS'; have s0 := hS'; obtain ⟨hS1, hS2⟩ := hS'; have c5 := cell_of (i := 5) hS1 rfl; have q0 := cell_of (i := 0) hS2 rfl; have q1 := cell_of (i := 1) hS2 rfl; go_simp; with_reducible rfl) hHeld ?_
     refine tI 7 (some 89) (bs 23 1535) rfl (by intro w' hS'; have s0 := hS'; obtain ⟨hS1, hS2⟩ := hS'; have c5 := cell_of (i := 5) hS1 rfl; have q0 := cell_of (i := 0) hS2 rfl; have q1 := cell_of (i := 1) hS2 rfl; go_simp; with_reducible rfl) hHeld ?_
     refine tI 9 (some 91) (bs 23 2047) rfl (by intro w' hS'; have s0 := hS'; obtain ⟨hS1, hS2⟩ := hS'; have c5 := cell_of (i := 5) hS1 rfl; have q0 := cell_of (i := 0) hS2 rfl; have q1 := cell_of (i := 1) hS2 rfl; go_simp; with_reducible rfl) hHeld ?_
     refine pI 11 (some 93) (bs 23 4095) ?_
     refine pI 12 (some 94) (bs 23 8191) ?_
     refine pI 13 (some 95) (bs 23 16383) ?_
     refine pI 14 (some 96) (bs 23 32767) ?_
     refine pI 15 (some 97) (bs 23 65535) ?_
     refine pI 16 (some 98) (bs 23 131071) ?_
     refine pI 17 (some 99) (bs 23 262143) ?_
     refine pI 18 (some 100) (bs 23 524287) ?_
     refine pI 19 (some 101) (bs 23 1048575) ?_
     refine one_ (i := 20) (N := some 102) (bs 23 2097151) rfl rfl (by kernel_rfl) (by decide) (fun K hK => ?_)
     have HQ15 := As.mk hHeld
     refine value_ (w1 := w15.alloc (.cells #[.int .i64 AT, .int .i64 f1, .int .i64 (T : Int), .bool ((j : Int) + 1 == (its.length : Int))] 65)) (v := .slice (some ⟨w15.heap.size, 0, none⟩) 1 1) (by rfl) rfl ?_ ?_
     ·first | (go_simp; done) | (go_simp; rfl)
     refine hK.out _ _ ⟨((below_alloc (Below.refl w15.heap.size w15) (.cells #[.int .i64 AT, .int .i64 f1, .int .i64 (T : Int), .bool ((j : Int) + 1 == (its.length : Int))] 65)).block _ (blk_lt HQ15.out.1)).trans HQ15.out.1, ((below_alloc (Below.refl w15.heap.size w15) (.cells #[.int .i64 AT, .int .i64 f1, .int .i64 (T : Int), .bool ((j : Int) + 1 == (its.length : Int))] 65)).block _ (blk_lt HQ15.out.2)).trans HQ15.out.2⟩ (fun _ => ?_)
     clear hK K
     refine nI ?_
     refine one_ (i := 21) (N := some 103) (bs 23 4194303) rfl rfl (by kernel_rfl) (by decide) (fun K hK => ?_)
     refine Kd.R_append_step k65 (w0 := w15) w.heap.size (by rfl) (.tmp 82) (.tmp 102) 60 65 (.agg #[.int .i64 0, .int .i64 0, .int .i64 0, .bool false]) 32 rfl Tryz.underlying60 info_mt rfl (by decide) (by omega) _ ((List.range j).flatMap (hitF p xs L2 T its)) ⟨AT, f1, (T : Int), ((j : Int) + 1 == (its.length : Int))⟩ [.int .i64 AT, .int .i64 f1, .int .i64 (T : Int), .bool ((j : Int) + 1 == (its.length : Int))] (fun _ => True) (fun _ => False) (by rfl) (by rfl) (k65_mkM _ _ _ ⟨AT, f1, (T : Int), ((j : Int) + 1 == (its.length : Int))⟩) (fun _ hk => hk.elim) (fun _ _ => trivial) (Kd.R_below HO14.out HD15.out) (Below.refl _ _) (Nat.le_trans HZ14.out HD15.out.size) (by have h1 := hit_len p xs L2 T its j; have h2 := HIL.out; omega) ?_
     intro u16 w16 ho hb hg hat
     have HO16 := As.mk ho
     have HF16 := As.mk (match_far (Kd.R_below HO14.out HD15.out) hg)
     have HS16 := As.mk ((HS14.out.below HD15.out).far HF16.out)
     have HI16 := As.mk (show Rw w16 _ its from R_far HF16.out (HI14.out.below HD15.out) (fun q hq => by rw [List.mem_singleton.1 hq]; decide))
     have HK16 := As.mk (Kp.far (HK14.out.trans (Kp.of HD15.out (Nat.le_trans HDW.out HZ14.out))) hg (fun k hk => ((Kd.R_bound (Kd.R_below HO14.out HD15.out)).1 k hk).2.1) HDW.out)
     clear ho hb hg hat
     refine hK.out _ _ ⟨(HF16.out _ _ _ HQ15.out.1 (by decide)).trans HQ15.out.1, (HF16.out _ _ _ HQ15.out.2 (by decide)).trans HQ15.out.2⟩ (fun _ => ?_)
     clear hK K
     refine nI ?_
     refine pI 22 (some 5) (bs 23 8388607) ?_
     refine done_ (by kernel_rfl) ?_
     go_wp2
     go_roundg k1
     case measure => omega
     case rel => exact ⟨j + 1, by go_num, by omega, ⟨by have := HK.out; omega⟩, ⟨by rw [← HXN2.out]; exact HS16.out⟩, HK16, ⟨by rw [hit_next, HH2.out]; exact HO16.out⟩, HI16⟩
    ·have hq1 : (f2 == AT) = false := by simpa using hf
     have HH2 := As.mk (show hitF p xs L2 T its j = [⟨AT, f1, (T : Int), false⟩] by rw [HH.out, hq1, Bool.false_and])
     clear hf HH
     refine start_ (n := 23) (S := fun w' => w'.heap[d]? = some (.cells #[.slice Ap p.length cp, .slice (some ⟨g, 0, none⟩) (p.length + 1) (p.length + 1), .pointer (some ⟨v, 0, none⟩), .int .i64 ((metF p XN : Nat) : Int), .int .i64 (XN.length : Int), .int .i64 (T : Int), lv2] 119 (0, 0)) ∧ w'.heap[w13.heap.size]? = some (.cells #[.int .i64 f1, .int .i64 f2] 179 (0, 0))) (ds := []) #[false, false, false, false, false, false, false, false, false, false, false, false, false, false, false, false, false, false, false, false, false, false, false] (by kernel_rfl) rfl rfl (⟨((below_drew1 (Below.refl w14.heap.size w14)).block _ (blk_lt HS14.out.blk)).trans HS14.out.blk, ((below_drew1 (Below.refl w14.heap.size w14)).block _ (blk_lt HX14.out)).trans HX14.out⟩) (fun hHeld => ?_)
     have HD15 := As.mk (below_drew1 (Below.refl w14.heap.size w14)); clear hHeld; generalize w14.drew = w15 at HD15 ⊢; have hHeld := And.intro ((HD15.out.block _ (blk_lt HS14.out.blk)).trans HS14.out.blk) ((HD15.out.block _ (blk_lt HX14.out)).trans HX14.out)
     refine pI 0 (some 82) (bs 23 1) ?_
     refine pI 1 (some 83) (bs 23 3) ?_
     refine pI 2 (some 84) (bs 23 7) ?_
     refine pI 4 (some 86) (bs 23 23) ?_
     refine pI 5 (some 87) (bs 23 55) ?_
     refine pI 6 (some 88) (bs 23 119) ?_
     refine pI 8 (some 90) (bs 23 375) ?_
     refine pI 10 (some 92) (bs 23 1399) ?_
     refine tI 3 (some 85) (bs 23 1407) rfl (by intro w' hS'; have s0 := hS'; obtain ⟨hS1, hS2⟩ := hS'; have c5 := cell_of (i := 5) hS1 rfl; have q0 := cell_of (i := 0) hS2 rfl; have q1 := cell_of (i := 1) hS2 rfl; go_simp; with_reducible rfl) hHeld ?_
     refine tI 7 (some 89) (bs 23 1535) rfl (by intro w' hS'; have s0 := hS'; obtain ⟨hS1, hS2⟩ := hS'; have c5 := cell_of (i := 5) hS1 rfl; have q0 := cell_of (i := 0) hS2 rfl; have q1 := cell_of (i := 1) hS2 rfl; go_simp; with_reducible rfl) hHeld ?_
     refine tI 9 (some 91) (bs 23 2047) rfl (by intro w' hS'; have s0 := hS'; obtain ⟨hS1, hS2⟩ := hS'; have c5 := cell_of (i := 5) hS1 rfl; have q0 := cell_of (i := 0) hS2 rfl; have q1 := cell_of (i := 1) hS2 rfl; go_simp; with_reducible rfl) hHeld ?_
     refine pI 11 (some 93) (bs 23 4095) ?_
     refine pI 12 (some 94) (bs 23 8191) ?_
     refine pO 13 (some 95) (bs 23 16383) ?_
     refine pO 14 (some 96) (bs 23 32767) ?_
     refine pO 15 (some 97) (bs 23 65535) ?_
     refine pO 16 (some 98) (bs 23 131071) ?_
     refine pO 17 (some 99) (bs 23 262143) ?_
     refine pI 18 (some 100) (bs 23 524287) ?_
     refine pI 19 (some 101) (bs 23 1048575) ?_
     refine one_ (i := 20) (N := some 102) (bs 23 2097151) rfl rfl (by kernel_rfl) (by decide) (fun K hK => ?_)
     have HQ15 := As.mk hHeld
     refine value_ (w1 := w15.alloc (.cells #[.int .i64 AT, .int .i64 f1, .int .i64 (T : Int), .bool false] 65)) (v := .slice (some ⟨w15.heap.size, 0, none⟩) 1 1) (by rfl) rfl ?_ ?_
     ·first | (go_simp; done) | (go_simp; rfl)
     refine hK.out _ _ ⟨((below_alloc (Below.refl w15.heap.size w15) (.cells #[.int .i64 AT, .int .i64 f1, .int .i64 (T : Int), .bool false] 65)).block _ (blk_lt HQ15.out.1)).trans HQ15.out.1, ((below_alloc (Below.refl w15.heap.size w15) (.cells #[.int .i64 AT, .int .i64 f1, .int .i64 (T : Int), .bool false] 65)).block _ (blk_lt HQ15.out.2)).trans HQ15.out.2⟩ (fun _ => ?_)
     clear hK K
     refine nI ?_
     refine one_ (i := 21) (N := some 103) (bs 23 4194303) rfl rfl (by kernel_rfl) (by decide) (fun K hK => ?_)
     refine Kd.R_append_step k65 (w0 := w15) w.heap.size (by rfl) (.tmp 82) (.tmp 102) 60 65 (.agg #[.int .i64 0, .int .i64 0, .int .i64 0, .bool false]) 32 rfl Tryz.underlying60 info_mt rfl (by decide) (by omega) _ ((List.range j).flatMap (hitF p xs L2 T its)) ⟨AT, f1, (T : Int), false⟩ [.int .i64 AT, .int .i64 f1, .int .i64 (T : Int), .bool false] (fun _ => True) (fun _ => False) (by rfl) (by rfl) (k65_mkM _ _ _ ⟨AT, f1, (T : Int), false⟩) (fun _ hk => hk.elim) (fun _ _ => trivial) (Kd.R_below HO14.out HD15.out) (Below.refl _ _) (Nat.le_trans HZ14.out HD15.out.size) (by have h1 := hit_len p xs L2 T its j; have h2 := HIL.out; omega) ?_
     intro u16 w16 ho hb hg hat
     have HO16 := As.mk ho
     have HF16 := As.mk (match_far (Kd.R_below HO14.out HD15.out) hg)
     have HS16 := As.mk ((HS14.out.below HD15.out).far HF16.out)
     have HI16 := As.mk (show Rw w16 _ its from R_far HF16.out (HI14.out.below HD15.out) (fun q hq => by rw [List.mem_singleton.1 hq]; decide))
     have HK16 := As.mk (Kp.far (HK14.out.trans (Kp.of HD15.out (Nat.le_trans HDW.out HZ14.out))) hg (fun k hk => ((Kd.R_bound (Kd.R_below HO14.out HD15.out)).1 k hk).2.1) HDW.out)
     clear ho hb hg hat
     refine hK.out _ _ ⟨(HF16.out _ _ _ HQ15.out.1 (by decide)).trans HQ15.out.1, (HF16.out _ _ _ HQ15.out.2 (by decide)).trans HQ15.out.2⟩ (fun _ => ?_)
     clear hK K
     refine nI ?_
     refine pI 22 (some 5) (bs 23 8388607) ?_
     refine done_ (by kernel_rfl) ?_
     go_wp2
     go_roundg k1
     case measure => omega
     case rel => exact ⟨j + 1, by go_num, by omega, ⟨by have := HK.out; omega⟩, ⟨by rw [← HXN2.out]; exact HS16.out⟩, HK16, ⟨by rw [hit_next, HH2.out]; exact HO16.out⟩, HI16⟩
   ·have hd1 : (((metF p XN : Nat) : Int) == (p.length : Int)) = false := by simp; omega
    have hh : hitF p xs L2 T its j = [] := by unfold hitF; rw [← hXN, if_neg hm]
    have HH := As.mk hh
    rw [← hXN] at HSN
    have HXN2 := As.mk hXN
    clear hm hh hXN hXNL
    go_wp2_with fail
    refine start_ (n := 11) (S := fun w' => Below w10.heap.size w10 w') (ds := []) #[false, false, false, false, false, false, false, false, false, false, false] (by kernel_rfl) rfl rfl (below_drew1 (Below.refl _ _)) (fun hHeld => ?_)
    have HD11 := As.mk (below_drew1 (Below.refl w10.heap.size w10)); clear hHeld; generalize w10.drew = w11 at HD11 ⊢; have hHeld := HD11.out
    refine pI 0 (some 57) (bs 11 1) ?_
    refine pI 1 (some 58) (bs 11 3) ?_
    refine pI 2 (some 59) (bs 11 7) ?_
    refine pI 4 (some 61) (bs 11 23) ?_
    refine pI 5 (some 62) (bs 11 55) ?_
    refine pI 6 (some 63) (bs 11 119) ?_
    refine pI 7 (some 64) (bs 11 247) ?_
    refine tI 3 (some 60) (bs 11 255) rfl (by intro w' hS'; have s0 := hS'; have hbq := (hS'.block _ (blk_lt HSN.out.blk)).trans HSN.out.blk; have c0 := cell_of (i := 0) hbq rfl; have c3 := cell_of (i := 3) hbq rfl; have c4 := cell_of (i := 4) hbq rfl; have c5 := cell_of (i := 5) hbq rfl; go_simp; with_reducible rfl) hHeld ?_
    refine tI 8 (some 65) (bs 11 511) rfl (by intro w' hS'; have s0 := hS'; have hbq := (hS'.block _ (blk_lt HSN.out.blk)).trans HSN.out.blk; have c0 := cell_of (i := 0) hbq rfl; have c3 := cell_of (i := 3) hbq rfl; have c4 := cell_of (i := 4) hbq rfl; have c5 := cell_of (i := 5) hbq rfl; go_simp; with_reducible rfl) hHeld ?_
    refine pI 9 (some 66) (bs 11 1023) ?_
    refine pI 10 (some 67) (bs 11 2047) ?_
    refine done_ (by kernel_rfl) ?_
    go_wp2
    go_roundg k1
    case measure => omega
    case rel => exact ⟨j + 1, by go_num, by omega, ⟨by have := HK.out; omega⟩, ⟨by rw [← HXN2.out]; exact HSN.out.below HD11.out⟩, ⟨HKN.out.trans (Kp.of HD11.out (Nat.le_trans HDW.out HZ.out))⟩, ⟨by rw [hit_next, HH.out, List.append_nil]; exact Kd.R_below HON.out HD11.out⟩, ⟨HIN.out.below HD11.out⟩⟩
  ·obtain rfl : j = its.length := by omega
   have c5 := cell_of (i := 5) HSJ.out.blk rfl
   have f5 := frozen_of HSJ.out.blk 5
   have hwT : wrap64 ((T : Int) + 1) = (T : Int) + 1 := by have := HXL.out; exact w64 (by omega) (by omega)
   have hTT : ((T + 1 : Nat) : Int) = (T : Int) + 1 := by omega
   have hS := HSJ.out
   rw [List.take_length] at hS
   have HSE := As.mk (hS.kp (xs' := xs ++ its) (T' := T + 1) (Kp.set hS.blk 5 (.int .i64 ((T : Int) + 1))) (by rw [hTT]; exact blk_put hS.blk 5 _ rfl) (Kd.R_set hS.hl hS.blk (by decide) 5 (.int .i64 ((T : Int) + 1))))
   have HKE := As.mk (HKJ.out.trans (Kp.set hS.blk 5 (.int .i64 ((T : Int) + 1))))
   have HOE := As.mk (Kd.R_set HO.out hS.blk (by decide) 5 (.int .i64 ((T : Int) + 1)))
   clear hS hTT
   go_wp2
   go_ret
   refine ⟨_, lv2, rfl, ?_, ?_, HKE.out⟩
   ·rw [← HL2.out]; exact HOE.out
   ·rw [← HL2.out]; exact HSE.out
end Go.Proofs.YtkffhgiiejbnaaaGreat.Sk
