import Derived.Test.YtkffhgiiejbnaaaGreatZEncI
import Derived.Test.YtkffhgiiejbnaaaGreatZRngB
set_option maxRecDepth 100000
set_option maxHeartbeats 1000000
set_option linter.unusedVariables false
set_option linter.unusedSimpArgs false
set_option linter.unnecessarySimpa false
namespace Go.Proofs.YtkffhgiiejbnaaaGreat.En
open Go.Shelf Go.RowKit YtkffhgiiejbnaaaGreatW.PrintWords YtkffhgiiejbnaaaGreatW.PrintLast YtkffhgiiejbnaaaGreatW.PrintMore Rf Aid Mp Hp Bn Tk Vc Rg Go.Proofs.YtkffhgiiejbnaaaGreat.Fn
attribute [local go_sem] Oper.semAt_some
def kPc : Kd (Option Addr × List Int) where
 sz := 1
 E := []
 K := fun _ x cs => cs = [.slice x.1 x.2.length x.2.length]
 M := fun _ _ _ x cs => cs = [.slice x.1 x.2.length x.2.length]
 K_len := by rintro _ _ _ rfl; rfl
 K_one := by
  rintro _ _ _ rfl u hu
  rw [List.mem_singleton.1 hu]
  rfl
 K_below := fun _ h => h
 K_of_M := fun h => h
 M_mono := fun _ h => h
 M_bound := fun h => h
 M_move := fun _ h => h
 M_lower := fun _ h => h
theorem info_row : (Tryz.prog.info? 41).map (fun i => (i.zero, i.size, i.bytes)) = some (some (.slice none 0 0), 1, 24) := by kernel_rfl
theorem pcsF_len (s : Sp) : ∀ (f : Nat) (A : Option Addr) (c : Nat) (xs : List Int), (pcsF s f A c xs).length ≤ f
 | 0, _, _, _ => Nat.le_refl _
 | f + 1, A, c, xs => by
  unfold pcsF
  split
  ·simp
  ·rw [List.length_cons]; have := pcsF_len s f (if c = cutN s xs then A else A.map (·.add (cutN s xs))) (c - cutN s xs) (xs.drop (cutN s xs)); omega
theorem addr_blk (a : Addr) (n : Nat) : (a.add n).block = a.block := by unfold Addr.add; split <;> rfl
def onlyN (Q : Exit → Act → World → Prop) : Exit → Act → World → Prop
 | .normal, a, w => Q .normal a w
 | _, _, _ => False
theorem only_ {F : Fence} {n : Nat} {P : Program} {c : Code} {Q : Exit → Act → World → Prop} {a : Act} {w : World} (h : c.wpIn F n P (onlyN Q) a w) : c.wpIn F n P Q a w := wpIn_mono h (by
 intro e a w h
 cases e <;> first | exact h | exact h.elim)
theorem row_block {w : World} {m t r0 : Nat} {u : Value} {o0 : Obj} {A : Option Addr} {xs : List Int} (h : Kd.C (Kd.int .i64) w A xs.length xs) (hm : w.heap[m]? = some (.cells #[u] t (0, 0))) (hu : ∀ i, u ≠ .int .i64 i) (h0 : w.heap[r0]? = some o0) (hne : r0 ≠ m) :
  ∃ (r : Nat) (o : Obj), w.heap[r]? = some o ∧ r ≠ m ∧ ∀ W' : World, W'.heap[r]? = some o → Kd.C (Kd.int .i64) W' A xs.length xs := by
 obtain ⟨h1, h2, h3⟩ := h
 rcases Nat.eq_zero_or_pos xs.length with h | hp
 ·exact ⟨r0, o0, h0, hne, fun W' _ => ⟨h1, h2, fun hn => absurd hn (by omega)⟩⟩
 ·obtain ⟨ad, e, hc⟩ := h3 hp
  obtain ⟨c0, q1, q2, q3⟩ := hc 0 _ (List.getElem?_eq_getElem hp)
  have q2' : c0 = [.int .i64 xs[0]] := q2
  subst q2'
  have hcell := q3 0 _ rfl
  unfold World.cell? at hcell
  cases ho : w.heap[ad.block]? with
  | none =>
   rw [show (ad.add (0 * (Kd.int .i64).sz + 0)).block = ad.block from rfl, ho] at hcell
   cases hcell
  | some o =>
   refine ⟨ad.block, o, ho, fun e' => ?_, fun W' hW => ⟨h1, h2, fun _ => ⟨ad, e, fun j p hj => ?_⟩⟩⟩
   ·rw [show (ad.add (0 * (Kd.int .i64).sz + 0)).block = ad.block from rfl, e', hm] at hcell
    simp only at hcell
    split at hcell
    ·cases hcell
    ·obtain ⟨hlt2, hh⟩ := Array.getElem?_eq_some_iff.1 hcell
     have hlt3 : (ad.add (0 * (Kd.int .i64).sz + 0)).off < 1 := hlt2
     have h0' : (ad.add (0 * (Kd.int .i64).sz + 0)).off = 0 := by omega
     have : u = .int .i64 xs[0] := by simpa [h0'] using hh
     exact hu _ this
   ·obtain ⟨c, a1, a2, a3⟩ := hc j p hj
    refine ⟨c, a1, a2, fun i v hi => ?_⟩
    rw [← a3 i v hi]
    unfold World.cell?
    rw [addr_blk, hW, ho]
def PieI (w1 : World) (r B : Nat) (o : Obj) (pre : List (Option Addr × List Int)) (W : World) : Prop :=
 (∃ u, W.heap[w1.heap.size]? = some (.cells #[u] 43 (0, 0)) ∧ Kd.R kPc 41 W B (fun _ => True) u pre) ∧ Below w1.heap.size w1 W ∧ W.heap[r]? = some o ∧ B ≤ W.heap.size
theorem pieI_bears {w1 : World} {b r B : Nat} {o : Obj} (hm : w1.heap.size < B) (hmb : w1.heap.size < b) (hbB : b < B) (hrb : r ≠ b) (hrB : r < B) : Bears B b (PieI w1 r B o) := by
 rintro pre W W' row ⟨⟨u, h1, h2⟩, h4, h6, h5⟩ hg hr
 have hne : ∀ k, k < B → k ≠ b → some k ≠ row := fun k hk hkb e => by rcases hr k e.symm with h | ⟨h, _⟩ <;> omega
 refine ⟨⟨u, (hg.block _ (blk_lt h1) (hne _ hm (by omega))).trans h1, ?_⟩, h4.grown hg (by omega) (fun k e => by rcases hr k e with h | ⟨h, _⟩ <;> omega), (hg.block _ (Array.getElem?_eq_some_iff.1 h6).1 (hne _ hrB hrb)).trans h6, by have := hg.size; omega⟩
 refine Kd.R_mono (Kd.R_move (Kd.R_bound h2) (fun k hk => hg.block k hk.2.2.1 (fun e => ?_))) (fun _ _ => trivial)
 rcases hr k e.symm with h | ⟨_, o, ho, hc⟩
 ·have := hk.2.1; omega
 ·obtain ⟨q, hq, cells, hcc⟩ := hk.2.2.2
  rw [hcc] at ho
  injection ho with ho
  subst ho
  cases hc
theorem keeps_growP {W W' : World} {b : Nat} {ok : Nat → Prop} {u : Value} {l : List (Option Addr × List Int)} (hg : W.grownBy W' u.ownBlock) (hu : Kd.R kPc 41 W b ok u l) : KeepsOthers W W' :=
 KeepsOthers.of_grownBy hg fun j o e hj => by
  obtain ⟨_, _, _, q, hq, cells, hcc⟩ := (Kd.R_bound hu).1 j e
  rw [hcc] at hj
  injection hj with hj
  subst hj
  rfl
theorem two_new (w : World) (a b : Obj) : ((w.alloc a).alloc b).heap[w.heap.size]? = some a ∧ ((w.alloc a).alloc b).heap[w.heap.size + 1]? = some b ∧ ((w.alloc a).alloc b).heap.size = w.heap.size + 2 := by
 have h : ((w.alloc a).alloc b).heap = (w.heap.push a).push b := rfl
 rw [h]
 refine ⟨?_, ?_, by simp⟩
 ·rw [Array.getElem?_push, if_neg (by simp), Array.getElem?_push, if_pos rfl]
 ·rw [Array.getElem?_push, if_pos (by simp)]
theorem pieces_all {w : World} {v : Nat} {s : Sp} (hv : VocAt w v s) (hs : SpOk s) {A : Option Addr} {c : Nat} {xs : List Int} (hr : Kd.C (Kd.int .i64) w A xs.length xs) (hc : xs.length ≤ c) (hl : xs.length ≤ 1000000) (hri : ∀ x ∈ xs, rightP s x = true) :
  Calls Tryz.prog 17 #[.pointer (some ⟨v, 0, none⟩), .slice A xs.length c] w fun e w' => ∃ sv PS, e = .returned sv ∧ Kd.R kPc 41 w' w.heap.size (fun _ => True) sv PS ∧ PS.map (·.2) = pcsL s xs.length xs ∧ (∀ x ∈ PS, Kd.C (Kd.int .i64) w' x.1 x.2.length x.2) ∧ Below w.heap.size w w' := by
 refine (callsIn_wide (n := 4)).1 ?_
 have HB := As.mk (below_alloc (Below.refl w.heap.size w) (.cells #[.pointer (some ⟨v, 0, none⟩)] 30))
 have hb0 := (Go.MapKept.heap_alloc w (.cells #[.pointer (some ⟨v, 0, none⟩)] 30 (0, 0))).1
 have c0 := box_of w (.pointer (some ⟨v, 0, none⟩)) 30
 have b0 := blk_lt hb0
 have hi := conI A c xs 55 #[.pointer (some ⟨w.heap.size, 0, none⟩)] (fun n => !rightP s n) (enters_of Tryz.func55 (by kernel_rfl) rfl) (w.alloc (.cells #[.pointer (some ⟨v, 0, none⟩)] 30)) (Kd.C_below hr HB.out) (by omega)
  (fun W hW x hx => cloPieces (hv.below (HB.out.trans (hW.mono HB.out.size))) (pw_cell_below hW c0) x)
 have hw : xs.findIdx? (fun n => !rightP s n) = none := List.findIdx?_eq_none_iff.2 (fun x hx => by rw [hri x hx]; rfl)
 rw [hw] at hi
 simp only [Option.isSome_none] at hi
 have HI := As.mk hi
 have HV := As.mk hv
 have HR := As.mk hr
 have HRI := As.mk hri
 have HL := As.mk hl
 have HN0 := As.mk hb0
 clear hv hr hi hw hri hb0
 refine callsIn_of_wp_marks Tryz.func17 rfl trivial ?_ rfl
 simp only [Tryz.ntmps17, List.size_toArray, List.length_cons, List.length_nil, Nat.reduceAdd, Nat.reduceSub, Array.replicate_succ, Array.replicate_zero, List.push_toArray, List.append_toArray, List.nil_append, List.cons_append]
 gi_wp2_with (refine ⟨trivial, ?_⟩; gi_at_call 54; refine (callsIn_wide.2 HI.out).mono ?_; rintro e w1 ⟨rfl, hb⟩; have HN1 := As.mk ((hb.block _ (blk_lt HN0.out)).trans HN0.out); have HB1 := As.mk (HB.out.trans (hb.mono HB.out.size)); have hb1 := hb.size; clear hb)
 have HM := As.mk (Go.MapKept.heap_alloc w1 (.cells #[.slice none 0 0] 43 (0, 0))).1
 have HB2 := As.mk (below_alloc (Below.refl w1.heap.size w1) (.cells #[.slice none 0 0] 43))
 have hsz2 : (w1.alloc (.cells #[.slice none 0 0] 43)).heap.size = w1.heap.size + 1 := World.size_alloc _ _
 generalize w1.alloc (.cells #[.slice none 0 0] 43) = w2 at HM HB2 hsz2 ⊢
 refine only_ ?_
 refine startW_ (n := 4) (S := fun w' => Below w2.heap.size w2 w') (ds := []) (by kernel_rfl) (by rintro ⟨_, _, h⟩; exact h) #[false, false, false, false] (by kernel_rfl) rfl rfl (below_drew1 (Below.refl _ _)) (fun hHeld => ?_)
 have HD3 := As.mk (below_drew1 (Below.refl w2.heap.size w2)); clear hHeld; generalize w2.drew = w3 at HD3 ⊢; have hHeld := HD3.out
 refine pI 1 (some 15) (bs 4 2) ?_
 refine tI 0 (some 14) (bs 4 3) rfl (by intro w' hS'; have s0 := hS'; have z0 := cell_of0 ((hS'.block _ (by omega)).trans ((HB2.out.block _ (blk_lt HN1.out)).trans HN1.out)); go_simp; with_reducible rfl) hHeld ?_
 refine one_ (i := 2) (N := some 16) (bs 4 7) rfl rfl (by kernel_rfl) (by decide) (fun K hK => ?_)
 refine goes_ Tryz.func58 (by kernel_rfl) rfl #[.slice A xs.length c] (by rfl) rfl rfl (by simp [Act.eval]) ?_
 have HB3 := As.mk (HB1.out.trans (HB2.out.mono HB1.out.size |>.trans (HD3.out.mono (Nat.le_trans HB1.out.size HB2.out.size))))
 refine (cloneI A c xs w3 (Kd.C_below HR.out HB3.out) (by have := HL.out; omega)).mono ?_
 rintro e w4 ⟨A4, c4, rfl, hr4, hc4, hb4⟩
 have HR4 := As.mk hr4
 have HD4 := As.mk (bt_ HD3.out hb4)
 clear hr4 hb4
 refine ⟨_, rfl, ?_⟩
 refine hK.out _ _ HD4.out (fun hHeld => ?_)
 clear hK K
 refine nI ?_
 refine one_ (i := 3) (N := some 17) (bs 4 15) rfl rfl (by kernel_rfl) (by decide) (fun K hK => ?_)
 refine goes_ Tryz.func57 (by kernel_rfl) rfl #[.pointer (some ⟨v, 0, none⟩), .slice A4 xs.length c4] (by rfl) rfl rfl (by simp [Act.eval]) ?_
 refine (pieces_any v A4 xs.length c4 w4).mono ?_
 rintro e w5 ⟨rfl, hw5⟩
 have HN5 := As.mk (two_new w4 (.cells #[.pointer (some ⟨v, 0, none⟩)] 30 (0, 0)) (.cells #[.slice A4 xs.length c4] 41 (0, 0)))
 have HB45 := As.mk (below_alloc (below_alloc (Below.refl w4.heap.size w4) (.cells #[.pointer (some ⟨v, 0, none⟩)] 30)) (.cells #[.slice A4 xs.length c4] 41))
 rw [hw5] at HN5 HB45
 have HD5 := As.mk (bt_ HD4.out HB45.out)
 clear hw5
 refine ⟨_, rfl, ?_⟩
 refine hK.out _ _ HD5.out (fun hHeld => ?_)
 clear hK K
 refine nI ?_
 refine done_ (by kernel_rfl) ?_
 unfold onlyN
 dsimp only
 obtain ⟨hn2, hn3, hsz⟩ := HN5.out
 have hM4 := (HD4.out.block _ (by omega)).trans HM.out
 obtain ⟨r, o, hro4, hrm, hrC⟩ := row_block HR4.out hM4 (fun i e => by cases e) ((HD4.out.block _ (by have := blk_lt HN1.out; omega)).trans ((HB2.out.block _ (blk_lt HN1.out)).trans HN1.out)) (Nat.ne_of_lt (by have := blk_lt HN1.out; omega))
 have hr4 : r < w4.heap.size := (Array.getElem?_eq_some_iff.1 hro4).1
 have hro := (HB45.out.block r hr4).trans hro4
 have hB : Below w1.heap.size w1 w5 := HB2.out.trans (HD5.out.mono HB2.out.size)
 have hM5 := (HD5.out.block _ (by omega)).trans HM.out
 have h24 := HD4.out.size
 have hI0 : PieI w1 r w5.heap.size o [] w5 := ⟨⟨_, hM5, Kd.R_nil _ _ _ _ _⟩, hB, hro, Nat.le_refl _⟩
 have hbe : Bears w5.heap.size (w4.heap.size + 1) (PieI w1 r w5.heap.size o) := pieI_bears (by omega) (by omega) (by omega) (by omega) (by omega)
 have hit := pieces_yields hs (HV.out.below HB1.out) hB (b := w4.heap.size + 1) (b2 := w4.heap.size) (by omega) (by omega) (by omega) hro (by omega) (fun W' h _ => hrC W' h) hc4 HRI.out (by have := HL.out; omega) hn3 hn2
 have HRC := As.mk hrC
 have HPL := As.mk (pcsF_len s xs.length A4 c4 xs)
 have HRD := As.mk (fun (W' : World) (h : W'.heap[r]? = some o) => pcsF_read (s := s) xs.length A4 c4 xs (hrC W' h) hc4)
 have HMP := As.mk (pcsF_map s xs.length A4 c4 xs)
 generalize pcsF s xs.length A4 c4 xs = PS at *
 clear hrC hro4 hM4 hn2 hn3 HN5 HB45 HR4 hHeld
 have HSZ := As.mk (And.intro hsz2 (And.intro hsz (And.intro h24 (And.intro hrm hr4))))
 gi_wp2
 refine range_all (gf := 92) rfl (enters_of Tryz.func92 (by kernel_rfl) rfl) (encs := encP) (fun _ => rfl) PS w1.heap.size (w4.heap.size + 1) w4.heap.size r (by omega) (by omega) (by omega) (by omega) hit (PieI w1 r w5.heap.size o) hbe hI0
  (fun x => { tmps := #[.pointer (some ⟨v, 0, none⟩), .slice A xs.length c, .pointer (some ⟨w.heap.size, 0, none⟩), undef, .slice none 0 0, .pointer (some ⟨w1.heap.size, 0, none⟩), .slice x.1 x.2.length x.2.length, .pointer (some ⟨v, 0, none⟩), .bool false, .bool false, .slice A xs.length c, .func (.func 55) #[] #[.pointer (some ⟨w.heap.size, 0, none⟩)], .bool false, .bool false, .pointer (some ⟨v, 0, none⟩), .slice A xs.length c, .slice A4 xs.length c4, .func (.func 92) #[] #[.pointer (some ⟨w4.heap.size + 1, 0, none⟩), .pointer (some ⟨w4.heap.size, 0, none⟩)], .slice x.1 x.2.length x.2.length, undef, undef, undef, undef, undef], defers := [] }) ?assign ?body ?done
 case assign =>
  intro l x W K hK
  have e : (#[18] : Array Tmp).zip (encP x) = #[(18, .slice x.1 x.2.length x.2.length)] := by simp [encP]
  rw [e]
  gi_wp2
  exact hK
 case body =>
  clear hit hbe hI0 hB hro hM5 hsz2 hsz h24 hrm hr4
  rintro l pre ⟨pa, p⟩ W ⟨⟨u, h1, hu⟩, hB, hro, hS⟩ hpx
  have HHL := As.mk (Nat.le_trans (show (pre ++ [(pa, p)]).length ≤ PS.length from hpx.length_le) HPL.out)
  have HU := As.mk hu
  have HB := As.mk hB
  have HZ := As.mk hS
  have HO := As.mk hro
  have z1 := cell_of0 h1
  have H1 := As.mk h1
  clear hu hB hS hpx h1 hro
  refine wpIn_block ?_
  refine regR_ (by kernel_rfl) (by rintro ⟨_, _, h⟩; exact nomatch (show Exit.outgrown = Exit.normal ∧ _ from h).1) ?_
  go_wp2_with ((with_reducible refine gate_builtin (b := .append) (xs := #[.tmp 19, .tmp 21]) rfl ?_); at_builtin; refine Kd.R_append kPc (w0 := W) w5.heap.size rfl (.tmp 19) (.tmp 21) 43 41 (.slice none 0 0) 24 rfl Tryz.underlying43 info_row rfl (by decide) (by omega) u pre (pa, p) [.slice pa p.length p.length] (fun _ => True) (fun _ => False) rfl rfl ?aP (fun _ hk => hk.elim) ?aF ?aO ?aB ?aS ?aL ?_)
  case aP => exact rfl
  case aF => exact fun _ _ => trivial
  case aO => exact HU.out
  case aB => exact Below.refl _ _
  case aS => exact HZ.out
  case aL => have h1 := HHL.out; have h2 := HL.out; rw [List.length_append, List.length_singleton] at h1; omega
  intro u7 w7 ho hb hg hat
  obtain ⟨A7, c7, hu7⟩ := Kd.R_slice ho
  obtain ⟨n7, hn7⟩ : ∃ n, n = (pre ++ [(pa, p)]).length := ⟨_, rfl⟩
  rw [← hn7] at hu7
  subst hu7
  clear hn7
  have h17 := (hb.block _ (by have := HSZ.out; omega)).trans H1.out
  have HO7 := As.mk ho
  have HB7 := As.mk hb
  have HK7 := As.mk (keeps_growP hg HU.out)
  have H17 := As.mk h17
  have z7 := cell_of0 h17
  have f7 := frozen_of h17 0
  clear ho hb hg hat h17 z1
  go_wp2
  obtain ⟨q1, q2, q3, q4, q5⟩ := HSZ.out
  have hne : ∀ k, k ≠ w1.heap.size → (w7.setCell ⟨w1.heap.size, 0, none⟩ (.slice A7 n7 c7)).heap[k]? = w7.heap[k]? := fun k hk => Below.heap_setCell w7 ⟨w1.heap.size, 0, none⟩ _ k hk
  have hS := (Below.refl w1.heap.size w7).setCell (p := ⟨w1.heap.size, 0, none⟩) (Nat.le_refl _) (.slice A7 n7 c7)
  have hB7 := HB7.out.mono (show w1.heap.size ≤ w5.heap.size by omega)
  have hr7 := (hne r q4).trans (HB7.out.block _ (show r < w5.heap.size by omega))
  refine ⟨trivial, HK7.out.trans (KeepsOthers.setCell _ _ _), ⟨hB7.trans hS, ?_, ?_, hr7⟩, ⟨_, blk_put H17.out 0 _ rfl, Kd.R_set HO7.out H17.out (by decide) 0 _⟩, (HB.out.trans hB7).trans hS, hr7.trans HO.out, ?_⟩
  ·exact (hne _ (by omega)).trans (HB7.out.block _ (by omega))
  ·exact (hne _ (by omega)).trans (HB7.out.block _ (by omega))
  ·exact Nat.le_trans HZ.out (Nat.le_trans HB7.out.size hS.size)
 case done =>
  intro D W hD hI hd
  obtain ⟨⟨u, h1, hu⟩, _, _, hz⟩ := id hI
  have z1 := cell_of0 h1
  gi_wp2
  refine ⟨by simp, .inl ⟨_, _, rfl, run_takeDeferred hd, ?_⟩⟩
  have hI2 := hbe PS W (W.putObj D (.deferred none)) (some D) hI (put_grown W D _) (fun r e => by cases e; exact .inr ⟨by omega, _, hd, rfl⟩)
  obtain ⟨⟨u2, g1, g2⟩, g4, g5, _⟩ := hI2
  have hu2 : u2 = u := by
   have := g1.symm.trans ((World.putObj_heap_other (show w1.heap.size ≠ D by omega)).trans h1)
   injection this with this
   injection this with this
   injection this with this
   injection this with this
  subst hu2
  exact ⟨_, results_tmp rfl _ _ _, u2, PS, rfl, Kd.R_lower g2 (by have := HB1.out.size; omega), HMP.out, fun x hx => (HRD.out _ g5 x hx).1, HB1.out.trans (g4.mono HB1.out.size)⟩
end Go.Proofs.YtkffhgiiejbnaaaGreat.En
