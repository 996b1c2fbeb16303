import Derived.Laws.OwnMore
import Derived.Laws.CopyRow
import Derived.Test.YtkffhgiiejbnaaaGreatQSkD
set_option maxRecDepth 100000
set_option maxHeartbeats 2000000
set_option linter.unusedVariables false
set_option linter.unusedSimpArgs false
namespace Go.Proofs.YtkffhgiiejbnaaaGreat.Sk
open Go.Shelf Go.RowKit YtkffhgiiejbnaaaGreatW.PrintWords YtkffhgiiejbnaaaGreatW.PrintLast YtkffhgiiejbnaaaGreatW.PrintMore Rf Aid Mp Hp Tk Vc En
def encPl (l : List (Int × Int)) : List Value := l.flatMap (fun x => [.int .i64 x.1, .int .i64 x.2])
theorem encPl_len : ∀ l : List (Int × Int), (encPl l).length = l.length * 2
 | [] => rfl
 | x :: l => by
  have := encPl_len l
  unfold encPl at this ⊢
  rw [List.flatMap_cons, List.length_append, this, List.length_cons]
  simp
  omega
theorem encPl_one {l : List (Int × Int)} : ∀ u ∈ encPl l, u.oneCell' = true := fun u hu => by
 unfold encPl at hu
 obtain ⟨x, _, hx⟩ := List.mem_flatMap.1 hu
 rcases List.mem_cons.1 hx with e | hx
 ·rw [e]; rfl
 ·rw [List.mem_singleton.1 hx]; rfl
theorem reps_pl {R : (Int × Int) → List Value → Prop} (hR : ∀ x cs, R x cs → cs = [.int .i64 x.1, .int .i64 x.2]) : ∀ (l : List (Int × Int)) (cs : List Value), Reps R 2 l cs → cs = encPl l
 | [], cs, h => List.eq_nil_of_length_eq_zero (by rw [h.1]; rfl)
 | x :: l, cs, h => by
  have h0 := hR _ _ (h.2 0 x rfl)
  rw [Nat.zero_mul, List.drop_zero] at h0
  have hl : Reps R 2 l (cs.drop 2) := ⟨by rw [List.length_drop, h.1, List.length_cons]; omega, fun j p hj => by
   have := h.2 (j + 1) p (by simpa using hj)
   rw [List.drop_drop, show 2 + j * 2 = (j + 1) * 2 by omega]
   exact this⟩
  have ih := reps_pl hR l _ hl
  rw [← List.take_append_drop 2 cs, h0, ih]
  rfl
theorem reps_enc {R : (Int × Int) → List Value → Prop} (hR : ∀ x, R x [.int .i64 x.1, .int .i64 x.2]) : ∀ l : List (Int × Int), Reps R 2 l (encPl l)
 | [] => Reps.none _ _
 | x :: l => by
  have ih := reps_enc hR l
  refine ⟨encPl_len _, fun j p hj => ?_⟩
  cases j with
  | zero =>
   injection hj with hj
   subst hj
   exact hR _
  | succ j =>
   have := ih.2 j p (by simpa using hj)
   show R p (((.int .i64 x.1 :: .int .i64 x.2 :: encPl l : List Value).drop ((j + 1) * 2)).take 2)
   rw [show (j + 1) * 2 = j * 2 + 1 + 1 by omega, List.drop_succ_cons, List.drop_succ_cons]
   exact this
theorem encPl_drop : ∀ (l : List (Int × Int)) (i : Nat), encPl (l.drop i) = (encPl l).drop (i * 2)
 | l, 0 => rfl
 | [], i + 1 => by simp [encPl]
 | x :: l, i + 1 => by
  rw [List.drop_succ_cons, encPl_drop l i, show (i + 1) * 2 = i * 2 + 1 + 1 by omega]
  show _ = (.int .i64 x.1 :: .int .i64 x.2 :: encPl l : List Value).drop (i * 2 + 1 + 1)
  rw [List.drop_succ_cons, List.drop_succ_cons]
theorem own_of_pl {w : World} {base n c g : Nat} {ok : Nat → Prop} {l : List (Int × Int)} (h : Kd.R kPl 179 w base ok (.slice (some ⟨g, 0, none⟩) n c) l) : w.ownsRow base 179 2 (.slice (some ⟨g, 0, none⟩) n c) n (encPl l) := by
 obtain ⟨hn, _, _⟩ := Kd.R_reads' h
 obtain ⟨_, inner, ho, hr⟩ := h
 have := reps_pl (fun x cs h => h) l inner hr
 subst this
 rw [← hn] at ho
 exact ho
theorem pl_of_own {w : World} {base n c g : Nat} {l : List (Int × Int)} (h : w.ownsRow base 179 2 (.slice (some ⟨g, 0, none⟩) n c) n (encPl l)) (hn : n = l.length) : Kd.R kPl 179 w base (fun _ => True) (.slice (some ⟨g, 0, none⟩) n c) l :=
 ⟨fun _ _ => trivial, encPl l, by rw [← hn]; exact h, (reps_enc (R := fun x cs => cs = [.int .i64 x.1, .int .i64 x.2]) (fun x => rfl) l)⟩
theorem under_pl : Tryz.prog.underlying 117 = some (.slice 179) := Tryz.underlying117
theorem elem_pl : Tryz.prog.elem 117 = 179 := by kernel_rfl
theorem under_pl' : Tryz.prog.underlying 117 = some (.slice (Tryz.prog.elem 117)) := by rw [elem_pl]; exact under_pl
theorem size_pl (W : World) : (sizeOf (Tryz.prog.elem 117)).run Tryz.prog W = .ok 2 W := by
 rw [elem_pl]
 obtain ⟨i, hi, hsz⟩ := Option.map_eq_some_iff.1 info_pl
 injection hsz with _ hsz
 injection hsz with hsz _
 simp [sizeOf, typeInfo, hi, hsz]
section
variable {g n c i m : Nat}
theorem del_s0 (hn : n ≤ c) (hi : i ≤ n) (W : World) : ∃ x, (Instr.slice 117 (.slice (some ⟨g, 0, none⟩) n c) (some (.int .i64 0)) (some (.int .i64 (i : Int))) (some (.int .i64 (n : Int)))).run Tryz.prog W = .ok x W := by
 rw [run_slice_lhm W 117 _ n c under_pl' .i64 .i64 .i64 0 (i : Int) (n : Int) (by omega) (by omega) (by omega) (by omega), size_pl]
 exact ⟨_, rfl⟩
theorem del_s1 (W : World) : (Instr.slice 117 (.slice (some ⟨g, 0, none⟩) n c) none (some (.int .i64 0)) none).run Tryz.prog W = .ok (.slice (some ⟨g, 0, none⟩) 0 c) W := by
 rw [run_slice_h W 117 _ n c under_pl' .i64 0 (by omega) (by omega), size_pl]
 simp only [Result.andThen, sliced]
 congr 2
 split <;> simp [Addr.add]
theorem del_s2 (hn : n ≤ c) (hm : n = m + i) (hm0 : 0 < m) (W : World) : (Instr.slice 117 (.slice (some ⟨g, 0, none⟩) n c) (some (.int .i64 (i : Int))) none none).run Tryz.prog W = .ok (.slice (some ⟨g, i * 2, none⟩) m (c - i)) W := by
 rw [run_slice_l W 117 _ n c under_pl' .i64 (i : Int) (by omega) (by omega), size_pl]
 simp only [Result.andThen, sliced, Int.toNat_natCast]
 rw [if_neg (by omega), show n - i = m by omega]
 congr 2
 simp only [Option.map_some]
 unfold Addr.add
 split <;> simp_all
theorem del_s3 (hn : n ≤ c) (hm : n = m + i) (hi : 0 < i) (W : World) : (Instr.slice 117 (.slice (some ⟨g, 0, none⟩) m c) (some (.int .i64 (m : Int))) (some (.int .i64 (n : Int))) none).run Tryz.prog W = .ok (.slice (some ⟨g, m * 2, none⟩) i (c - m)) W := by
 rw [run_slice_lh W 117 _ m c under_pl' .i64 .i64 (m : Int) (n : Int) (by omega) (by omega) (by omega), size_pl]
 simp only [Result.andThen, sliced, Int.toNat_natCast]
 rw [if_neg (by omega), show n - m = i by omega]
 congr 2
 simp only [Option.map_some]
 unfold Addr.add
 split <;> simp_all
end
theorem zero_pl (n : Nat) : (Builtin.zeroCells #[.int .i64 0, .int .i64 0] n).toList = List.replicate (n * 2) (.int .i64 0) := by
 apply List.ext_getElem
 ·simp [Builtin.zeroCells]
 ·intro i h1 h2
  simp only [Builtin.zeroCells, List.getElem_replicate, Array.getElem_toList, Array.getElem_map, Array.getElem_range]
  have h : i % 2 = 0 ∨ i % 2 = 1 := by omega
  show (#[Value.int .i64 0, Value.int .i64 0])[i % 2]! = _
  rcases h with h | h <;> rw [h] <;> rfl
theorem own_zero {w : World} {base e size n c g : Nat} {inner : List Value} (h : w.ownsRow base e size (.slice (some ⟨g, 0, none⟩) n c) n inner) : w.ownsRow base e size (.slice (some ⟨g, 0, none⟩) 0 c) 0 [] := by
 obtain ⟨h1, h2⟩ := h
 rcases h2 with ⟨e, _⟩ | ⟨g', cap, cur, e, hb, hg, hn, hcm, hs, ht⟩
 ·cases e
 ·injection e with e1 e2 e3
  injection e1 with e1
  injection e1 with e1
  subst e1
  subst e3
  exact ⟨by simp, .inr ⟨g, c, cur, rfl, hb, hg, Nat.zero_le _, hcm, hs, by simp⟩⟩
theorem own_read {w : World} {base e size n c g : Nat} {inner : List Value} (h : w.ownsRow base e size (.slice (some ⟨g, 0, none⟩) n c) n inner) {j : Nat} {u : Value} (hj : inner[j]? = some u) : w.cell? ⟨g, j, none⟩ = some u := by
 obtain ⟨h1, h2⟩ := h
 rcases h2 with ⟨e, _⟩ | ⟨g', cap, cur, e, hb, hg, hn, hcm, hs, ht⟩
 ·cases e
 ·injection e with e1 e2 e3
  injection e1 with e1
  injection e1 with e1
  subst e1
  have hlt := (List.getElem?_eq_some_iff.1 hj).1
  rw [← ht, List.getElem?_take, if_pos (by omega), Array.getElem?_toList] at hj
  simp only [World.cell?, hg]
  exact hj
theorem clear_pl {w : World} {base g m c i : Nat} {inner : List Value} (h : w.ownsRow base 179 2 (.slice (some ⟨g, 0, none⟩) m c) m inner) (hi : 0 < i) (hc : m + i ≤ c) (ty : TypeId) (k : Nat) :
  ∃ w', (Builtin.clear_ #[117] ty #[.slice (some ⟨g, m * 2, none⟩) i k]).run Tryz.prog w = .ok (.tuple #[]) w' ∧ w'.ownsRow base 179 2 (.slice (some ⟨g, 0, none⟩) m c) m inner ∧ w.grownBy w' (some g) := by
 obtain ⟨h1, h2⟩ := h
 rcases h2 with ⟨e, _⟩ | ⟨g', cap, cur, e, hb, hg, hn, hcm, hs, ht⟩
 ·cases e
 ·injection e with e1 e2 e3
  injection e1 with e1
  injection e1 with e1
  subst e1
  subst e3
  have hst := run_storeCells_at (P := Tryz.prog) g (m * 2) 179 (List.replicate (i * 2) (.int .i64 0)) 0 cur w hg (by rw [List.length_replicate]; omega) (fun v hv => by rw [List.eq_of_mem_replicate hv]; rfl)
  obtain ⟨q, rfl⟩ : ∃ q, i = q + 1 := ⟨i - 1, by omega⟩
  refine ⟨w.setRow g (cur.toList.take (m * 2 + 0) ++ List.replicate ((q + 1) * 2) (Value.int .i64 0) ++ cur.toList.drop (m * 2 + 0 + (List.replicate ((q + 1) * 2) (Value.int .i64 0)).length)).toArray, ?_, ⟨h1, .inr ⟨g, c, _, rfl, hb, setRow_heap w g cur _ 179 _ hg, hn, hcm, ?_, ?_⟩⟩, ⟨rfl, rfl, rfl, by simp, fun k _ hk => setRow_other w g k _ (fun e => hk (by simp [e]))⟩⟩
  ·have hz : ∀ W : World, (zeroValue 179).run Tryz.prog W = .ok (.agg #[.int .i64 0, .int .i64 0]) W := Tryz.zeroValue179
   simp [Builtin.clear_, run_underlying under_pl, hz, Value.cells, zero_pl, hst]
  ·simp only [List.size_toArray, List.length_append, List.length_take, List.length_drop, List.length_replicate, Array.length_toList]
   omega
  ·rw [Nat.add_zero]
   simp only [List.append_assoc]
   rw [List.take_append_of_le_length (by rw [List.length_take, Array.length_toList]; omega), List.take_take, Nat.min_self]
   exact ht
theorem app_run {P : Program} {oi : Oper} {a : Act} {W W' : World} {t : TypeId} {s x : Operand} {v xv u : Value} (ho : oi.op = .call { callee := .builtin .append, args := #[s, x], argTypes := #[t, t] }) (hs : a.eval s = v) (hx : a.eval x = xv) (hr : (Builtin.append_ #[t, t] oi.type #[v, xv]).run P W = .ok u W') : (execOp a.eval oi).run P W = .ok (.value u) W' := by
 unfold execOp
 simp only [ho, resolve, invoke, builtin, Sem.run_bind, Sem.run_pure, Result.andThen_ok, List.map_toArray, List.map_cons, List.map_nil, hs, hx, hr]
theorem delete_pl {w : World} {d g n c i m : Nat} {last : List (Int × Int)} (h : Kd.R kPl 179 w d (fun _ => True) (.slice (some ⟨g, 0, none⟩) n c) last) (hi : 0 < i) (hm : n = m + i) (hm0 : 0 < m) (hd : d ≤ w.heap.size) :
  Calls Tryz.prog 134 #[.slice (some ⟨g, 0, none⟩) n c, .int .i64 0, .int .i64 (i : Int)] w fun e w' => e = .returned (.slice (some ⟨g, 0, none⟩) m c) ∧ Kd.R kPl 179 w' d (fun _ => True) (.slice (some ⟨g, 0, none⟩) m c) (last.drop i) ∧ Kp d w w' ∧ ∀ k, k ≠ g → k < w.heap.size → w'.heap[k]? = w.heap[k]? := by
 have H := As.mk h
 have hC := Kd.R_reads' h
 have hn := hC.2.1
 have HLN := As.mk hC.1
 have HMX := As.mk hC.2.2.2.1
 have HM := As.mk hm
 have HD := As.mk hd
 obtain ⟨x0, hx0⟩ : ∃ x : World → Value, ∀ W, (Instr.slice 117 (.slice (some ⟨g, 0, none⟩) n c) (some (.int .i64 0)) (some (.int .i64 (i : Int))) (some (.int .i64 (n : Int)))).run Tryz.prog W = .ok (x W) W :=
  ⟨fun W => Classical.choose (del_s0 (g := g) (i := i) hn (by omega) W), fun W => Classical.choose_spec (del_s0 (g := g) (i := i) hn (by omega) W)⟩
 have hs1 := del_s1 (g := g) (n := n) (c := c)
 have hs2 := del_s2 (g := g) hn hm hm0
 have hs3 := del_s3 (g := g) hn hm hi
 have hne : ((0 : Int) == (i : Int)) = false := by simp; omega
 have hown := own_of_pl h
 have HOWN := As.mk hown
 clear h hC hown hm hd
 go_enter Tryz.func134, Tryz.ntmps134
 go_wp2_with fail
 refine start_ (n := 8) (S := fun _ => True) (ds := []) #[false, false, false, false, false, false, false, false] (by kernel_rfl) rfl rfl (trivial) (fun hHeld => ?_)
 have HD3 := As.mk (below_drew1 (Below.refl w.heap.size w)); clear hHeld; generalize w.drew = w3 at HD3 ⊢; have hHeld := trivial
 refine pI 0 (some 20) (bs 8 1) ?_
 refine pI 1 (some 21) (bs 8 3) ?_
 refine pI 2 (some 22) (bs 8 7) ?_
 refine pI 3 (some 23) (bs 8 15) ?_
 refine pI 4 (some 24) (bs 8 31) ?_
 refine pI 5 (some 25) (bs 8 63) ?_
 refine one_ (i := 6) (N := some 26) (bs 8 127) rfl rfl (by kernel_rfl) (by decide) (fun K hK => ?_)
 have hown3 := own_of_pl (Kd.R_below H.out HD3.out)
 obtain ⟨i0, hi0, hz0⟩ := Option.map_eq_some_iff.1 info_pl
 have hsz0 : i0.size = 2 := by injection hz0 with _ hz0; injection hz0 with hz0 _
 obtain ⟨w5, hrun, hown5, hg5⟩ := run_append_fits w3 d 117 117 179 i0 2 under_pl hi0 hsz0 g 0 c [] (own_zero hown3) ⟨g, i * 2, none⟩ m (c - i) ((encPl last).drop (i * 2)) (by rw [List.length_drop, encPl_len]; have h1 := HLN.out; have h2 := HM.out; omega) (fun j u hj => (by rw [List.getElem?_drop] at hj; rw [show (⟨g, i * 2, none⟩ : Addr).add j = ⟨g, i * 2 + j, none⟩ by unfold Addr.add; split <;> simp_all]; exact own_read hown3 hj)) (fun u hu => encPl_one u (List.mem_of_mem_drop hu)) (by have h2 := HM.out; omega)
 rw [Nat.zero_add, List.nil_append] at hown5
 rw [Nat.zero_add] at hrun
 refine value_ (w1 := w5) (v := .slice (some ⟨g, 0, none⟩) m c) (by rfl) rfl ?_ ?_
 ·exact app_run (t := 117) (s := .tmp 22) (x := .tmp 25) (by rfl) (by rfl) (by rfl) hrun
 have HO5 := As.mk hown5
 have HK5 := As.mk ((Kp.of HD3.out HD.out).trans (Kp.grow (Kd.R_below H.out HD3.out) hg5 (Nat.le_trans HD.out HD3.out.size)))
 have HK53 := As.mk (Nat.le_trans (Nat.le_trans HD.out HD3.out.size) hg5.size)
 have HZ5 := As.mk (fun (k : Nat) (hk : k ≠ g) (hl : k < w.heap.size) => (hg5.block k (Nat.lt_of_lt_of_le hl HD3.out.size) (fun e => hk (by injection e))).trans (HD3.out.block k hl))
 have HZS := As.mk (Nat.le_trans HD3.out.size hg5.size)
 clear hown3 hown5 hrun hg5 hi0 hz0 hsz0
 refine hK.out _ _ trivial (fun _ => ?_)
 clear hK K
 refine nI ?_
 refine pI 7 (some 0) (bs 8 255) ?_
 refine done_ (by kernel_rfl) ?_
 obtain ⟨w6, hrun6, hown6, hg6⟩ := clear_pl HO5.out hi (by have h2 := HM.out; omega) 0 (c - m)
 have HR6 := As.mk (pl_of_own (l := last.drop i) (by rw [encPl_drop]; exact hown6) (by rw [List.length_drop]; have h1 := HLN.out; have h2 := HM.out; omega))
 have HK6 := As.mk (HK5.out.trans (Kp.grow (lv := .slice (some ⟨g, 0, none⟩) m c) (pl_of_own (l := last.drop i) (by rw [encPl_drop]; exact HO5.out) (by rw [List.length_drop]; have h1 := HLN.out; have h2 := HM.out; omega)) hg6 HK53.out))
 have HZ6 := As.mk (fun (k : Nat) (hk : k ≠ g) (hl : k < w.heap.size) => (hg6.block k (Nat.lt_of_lt_of_le hl HZS.out) (fun e => hk (by injection e))).trans (HZ5.out k hk hl))
 clear hown6 hg6
 go_wp2
 go_ret
 exact ⟨rfl, HR6.out, HK6.out, HZ6.out⟩
end Go.Proofs.YtkffhgiiejbnaaaGreat.Sk
namespace Go.Proofs.YtkffhgiiejbnaaaGreat.Sk
open Go.Shelf Go.RowKit YtkffhgiiejbnaaaGreatW.PrintWords YtkffhgiiejbnaaaGreatW.PrintLast YtkffhgiiejbnaaaGreatW.PrintMore Rf Aid Mp Hp Tk Vc En
def forgetN (pl it : Int) : List (Int × Int) → Nat
 | _ :: b :: l => if b.2 + pl ≤ it then forgetN pl it (b :: l) + 1 else 0
 | _ => 0
def forgetL (pl it : Int) (last : List (Int × Int)) : List (Int × Int) := last.drop (forgetN pl it last)
theorem forgetN_drop {pl it : Int} {l : List (Int × Int)} {i : Nat} {x : Int × Int} (hx : l[i + 1]? = some x) : forgetN pl it (l.drop i) = if x.2 + pl ≤ it then forgetN pl it (l.drop (i + 1)) + 1 else 0 := by
 obtain ⟨hl, hx'⟩ := List.getElem?_eq_some_iff.1 hx
 rw [List.drop_eq_getElem_cons (show i < l.length by omega), List.drop_eq_getElem_cons hl, hx']
 rfl
theorem forgetN_end {pl it : Int} {l : List (Int × Int)} {i : Nat} (hi : l.length ≤ i + 1) : forgetN pl it (l.drop i) = 0 := by
 cases hd : l.drop i with
 | nil => rfl
 | cons a r =>
  have := congrArg List.length hd
  rw [List.length_drop, List.length_cons] at this
  obtain rfl : r = [] := List.eq_nil_of_length_eq_zero (by omega)
  rfl
theorem delete_zero {A : Option Addr} {n c : Nat} (hn : n ≤ c) (w : World) : Calls Tryz.prog 134 #[.slice A n c, .int .i64 0, .int .i64 0] w fun e w' => e = .returned (.slice A n c) ∧ w = w' := by
 obtain ⟨x0, hx0⟩ : ∃ x : Value, ∀ W, (Instr.slice 117 (.slice A n c) (some (.int .i64 0)) (some (.int .i64 0)) (some (.int .i64 (n : Int)))).run Tryz.prog W = .ok x W :=
  ⟨sliced A 0 0 n 2, fun W => by
   rw [run_slice_lhm W 117 _ n c under_pl' .i64 .i64 .i64 0 0 (n : Int) (by omega) (by omega) (by omega) (by omega), size_pl]
   rfl⟩
 go_enter Tryz.func134, Tryz.ntmps134
 go_wp2
 go_ret
 exact ⟨rfl, rfl⟩
theorem pl_ne {W : World} {base g n c b t : Nat} {ok : Nat → Prop} {l : List (Int × Int)} {cs : Array Value} (h : Kd.R kPl 179 W base ok (.slice (some ⟨g, 0, none⟩) n c) l) (hb : W.heap[b]? = some (.cells cs t (0, 0))) (ht : t ≠ 179) : b ≠ g := by
 rintro rfl
 obtain ⟨_, _, _, q, hq, cells, hc⟩ := (Kd.R_bound h).1 b rfl
 rw [hb] at hc
 injection hc with hc
 injection hc with _ ht' _
 exact ht (ht'.trans (by simpa [show kPl.E = [] from rfl] using hq))
theorem SkAt.kp {w w' : World} {d v : Nat} {Ap : Option Addr} {cp g : Nat} {lv lv' : Value} {p xs xs' : List Int} {T T' : Nat} {last last' : List (Int × Int)} (h : SkAt w d v Ap cp g lv p xs T last) (k : Kp d w w')
  (hb : w'.heap[d]? = some (.cells #[.slice Ap p.length cp, .slice (some ⟨g, 0, none⟩) (p.length + 1) (p.length + 1), .pointer (some ⟨v, 0, none⟩), .int .i64 ((metF p xs' : Nat) : Int), .int .i64 (xs'.length : Int), .int .i64 (T' : Int), lv'] 119 (0, 0)))
  (hl : Kd.R kPl 179 w' d (fun _ => True) lv' last') : SkAt w' d v Ap cp g lv' p xs' T' last' := ⟨hb, k.rw h.hp, k.rw h.hb, hl⟩
theorem forget_sk {w : World} {d v : Nat} {Ap : Option Addr} {cp g : Nat} {lv : Value} {p xs : List Int} {T : Nat} {last : List (Int × Int)} (h : SkAt w d v Ap cp g lv p xs T last) (hl : last.length ≤ 1000000000) (hp : p.length ≤ 1000) (hx : ∀ x ∈ last, 0 ≤ x.2 ∧ x.2 ≤ 1000000000000) :
  Calls Tryz.prog 100 #[.pointer (some ⟨d, 0, none⟩)] w fun e w' => e = .returned (.tuple #[]) ∧ ∃ lv', SkAt w' d v Ap cp g lv' p xs T (forgetL (p.length : Int) (xs.length : Int) last) ∧ Kp d w w' := by
 have H := As.mk h
 have hdw : d < w.heap.size := blk_lt h.blk
 obtain ⟨Al, cl, hlv⟩ := Kd.R_slice h.hl
 subst hlv
 have HX0 := As.mk hx
 clear h hx
 go_enter Tryz.func100, Tryz.ntmps100
 go_wp2_with fail
 go_loopg [2] last.length (fun k v2 W => ∃ (i : Nat), v2 = .int .i64 (i : Int) ∧ i ≤ last.length ∧ (i = 0 ∨ i < last.length) ∧ As (last.length - i ≤ k) ∧ As (Below w.heap.size w W) ∧ As (forgetN (p.length : Int) (xs.length : Int) last = i + forgetN (p.length : Int) (xs.length : Int) (last.drop i)))
 case atStart => exact ⟨0, rfl, Nat.zero_le _, .inl rfl, ⟨by omega⟩, ⟨Below.refl _ _⟩, ⟨by rw [List.drop_zero, Nat.zero_add]⟩⟩
 case round =>
  obtain ⟨i, rfl, hi, hi2, HK, HWr, HN⟩ := hrel
  rename World => wr
  obtain ⟨i1, hi1⟩ : ∃ i1, i1 = i + 1 := ⟨_, rfl⟩
  have hw1 : wrap64 ((i : Int) + 1) = (i1 : Int) := (w64 (by omega) (by omega)).trans (by omega)
  have HI1 := As.mk hi1
  have hii : i < i1 ∧ i1 ≤ i + 1 := by omega
  clear hi1
  by_cases hlt : i1 < last.length
  ·have hltI : decide ((i1 : Int) < (last.length : Int)) = true := decide_eq_true (by omega)
   have hltP : (i1 : Int) < (last.length : Int) := by omega
   obtain ⟨k1, rfl⟩ : ∃ k1, gk = k1 + 1 := ⟨gk - 1, by have := HK.out; omega⟩
   obtain ⟨⟨a, b⟩, hxx⟩ : ∃ x, last[i1]? = some x := ⟨_, List.getElem?_eq_getElem hlt⟩
   have hbx := HX0.out _ (List.mem_of_getElem? hxx)
   dsimp only at hbx
   have hfd := forgetN_drop (pl := (p.length : Int)) (it := (xs.length : Int)) (l := last) (i := i) (by rw [← HI1.out]; exact hxx)
   have hN := HN.out
   rw [hfd] at hN
   dsimp only at hN
   have HX := As.mk hxx
   obtain ⟨gl, hA, _, _⟩ := pl_cells H.out.hl hxx
   subst hA
   have hwb : wrap64 (b + (p.length : Int)) = b + (p.length : Int) := w64 (by omega) (by omega)
   clear hxx hfd HN hbx
   by_cases hle : b + (p.length : Int) ≤ (xs.length : Int)
   ·have hd2 : decide (b + (p.length : Int) ≤ (xs.length : Int)) = true := decide_eq_true hle
    rw [if_pos hle] at hN
    have HN2 := As.mk hN
    clear hN hle
    go_wp2_with fail
    refine start_ (n := 31) (S := fun w' => Below w.heap.size w w') (ds := []) #[false, false, false, false, false, false, false, false, false, false, false, false, false, false, false, false, false, false, false, false, false, false, false, false, false, false, false, false, false, false, false] (by kernel_rfl) rfl rfl (below_drew1 HWr.out) (fun hHeld => ?_)
    have HD3 := As.mk (below_drew1 HWr.out); clear hHeld; generalize wr.drew = w3 at HD3 ⊢; have hHeld := HD3.out
    refine pI 0 (some 3) (bs 31 1) ?_
    refine pI 1 (some 4) (bs 31 3) ?_
    refine pI 2 (some 5) (bs 31 7) ?_
    refine pI 3 (some 6) (bs 31 15) ?_
    refine pI 4 (some 7) (bs 31 31) ?_
    refine tI 5 (some 8) (bs 31 63) rfl (by intro w' hS'; have s0 := hS'; have hb0 := (hS'.block _ (blk_lt H.out.blk)).trans H.out.blk; have c0 := cell_of (i := 0) hb0 rfl; have c4 := cell_of (i := 4) hb0 rfl; have c6 := cell_of (i := 6) hb0 rfl; go_simp; with_reducible rfl) hHeld ?_
    refine pI 6 (some 9) (bs 31 127) ?_
    refine pI 7 (some 10) (bs 31 255) ?_
    refine pI 8 (some 11) (bs 31 511) ?_
    refine pI 9 (some 12) (bs 31 1023) ?_
    refine pI 10 (some 13) (bs 31 2047) ?_
    refine pI 11 (some 14) (bs 31 4095) ?_
    refine pI 13 (some 16) (bs 31 12287) ?_
    refine pI 14 (some 17) (bs 31 28671) ?_
    refine pI 18 (some 21) (bs 31 290815) ?_
    refine pI 19 (some 22) (bs 31 815103) ?_
    refine pI 20 (some 23) (bs 31 1863679) ?_
    refine pI 21 (some 24) (bs 31 3960831) ?_
    refine pI 25 (some 28) (bs 31 37515263) ?_
    refine pI 26 (some 29) (bs 31 104624127) ?_
    refine pI 27 (some 30) (bs 31 238841855) ?_
    refine tI 12 (some 15) (bs 31 238845951) rfl (by intro w' hS'; have s0 := hS'; have hb0 := (hS'.block _ (blk_lt H.out.blk)).trans H.out.blk; have c0 := cell_of (i := 0) hb0 rfl; have c4 := cell_of (i := 4) hb0 rfl; have c6 := cell_of (i := 6) hb0 rfl; go_simp; with_reducible rfl) hHeld ?_
    refine pI 15 (some 18) (bs 31 238878719) ?_
    refine pI 16 (some 19) (bs 31 238944255) ?_
    refine tI 17 (some 20) (bs 31 239075327) rfl (by intro w' hS'; have s0 := hS'; obtain ⟨_, e, z0, z1⟩ := pl_cells (Kd.R_below H.out.hl hS') HX.out; injection e with e; injection e with e; subst e; go_simp; with_reducible rfl) hHeld ?_
    refine tI 22 (some 25) (bs 31 243269631) rfl (by intro w' hS'; have s0 := hS'; have hb0 := (hS'.block _ (blk_lt H.out.blk)).trans H.out.blk; have c0 := cell_of (i := 0) hb0 rfl; have c4 := cell_of (i := 4) hb0 rfl; have c6 := cell_of (i := 6) hb0 rfl; go_simp; with_reducible rfl) hHeld ?_
    refine pI 23 (some 26) (bs 31 251658239) ?_
    refine pI 24 (some 27) (bs 31 268435455) ?_
    refine tI 28 (some 31) (bs 31 536870911) rfl (by intro w' hS'; have s0 := hS'; have hb0 := (hS'.block _ (blk_lt H.out.blk)).trans H.out.blk; have c0 := cell_of (i := 0) hb0 rfl; have c4 := cell_of (i := 4) hb0 rfl; have c6 := cell_of (i := 6) hb0 rfl; go_simp; with_reducible rfl) hHeld ?_
    refine pI 29 (some 32) (bs 31 1073741823) ?_
    refine pI 30 (some 33) (bs 31 2147483647) ?_
    refine done_ (by kernel_rfl) ?_
    go_wp2
    go_roundg k1
    case measure => omega
    case rel => exact ⟨i1, by rw [HI1.out]; go_num, by omega, .inr hlt, ⟨by have := HK.out; omega⟩, HD3, ⟨by have := HN2.out; rw [HI1.out]; rw [this]; omega⟩⟩
   ·have hd2 : decide (b + (p.length : Int) ≤ (xs.length : Int)) = false := decide_eq_false hle
    rw [if_neg hle, Nat.add_zero] at hN
    have HN2 := As.mk hN
    clear hN hle
    go_wp2_with fail
    refine start_ (n := 31) (S := fun w' => Below w.heap.size w w') (ds := []) #[false, false, false, false, false, false, false, false, false, false, false, false, false, false, false, false, false, false, false, false, false, false, false, false, false, false, false, false, false, false, false] (by kernel_rfl) rfl rfl (below_drew1 HWr.out) (fun hHeld => ?_)
    have HD3 := As.mk (below_drew1 HWr.out); clear hHeld; generalize wr.drew = w3 at HD3 ⊢; have hHeld := HD3.out
    refine pI 0 (some 3) (bs 31 1) ?_
    refine pI 1 (some 4) (bs 31 3) ?_
    refine pI 2 (some 5) (bs 31 7) ?_
    refine pI 3 (some 6) (bs 31 15) ?_
    refine pI 4 (some 7) (bs 31 31) ?_
    refine tI 5 (some 8) (bs 31 63) rfl (by intro w' hS'; have s0 := hS'; have hb0 := (hS'.block _ (blk_lt H.out.blk)).trans H.out.blk; have c0 := cell_of (i := 0) hb0 rfl; have c4 := cell_of (i := 4) hb0 rfl; have c6 := cell_of (i := 6) hb0 rfl; go_simp; with_reducible rfl) hHeld ?_
    refine pI 6 (some 9) (bs 31 127) ?_
    refine pI 7 (some 10) (bs 31 255) ?_
    refine pI 8 (some 11) (bs 31 511) ?_
    refine pI 9 (some 12) (bs 31 1023) ?_
    refine pI 10 (some 13) (bs 31 2047) ?_
    refine pI 11 (some 14) (bs 31 4095) ?_
    refine pI 13 (some 16) (bs 31 12287) ?_
    refine pI 14 (some 17) (bs 31 28671) ?_
    refine pI 18 (some 21) (bs 31 290815) ?_
    refine pI 19 (some 22) (bs 31 815103) ?_
    refine pI 20 (some 23) (bs 31 1863679) ?_
    refine pI 21 (some 24) (bs 31 3960831) ?_
    refine pI 25 (some 28) (bs 31 37515263) ?_
    refine pI 26 (some 29) (bs 31 104624127) ?_
    refine pI 27 (some 30) (bs 31 238841855) ?_
    refine tI 12 (some 15) (bs 31 238845951) rfl (by intro w' hS'; have s0 := hS'; have hb0 := (hS'.block _ (blk_lt H.out.blk)).trans H.out.blk; have c0 := cell_of (i := 0) hb0 rfl; have c4 := cell_of (i := 4) hb0 rfl; have c6 := cell_of (i := 6) hb0 rfl; go_simp; with_reducible rfl) hHeld ?_
    refine pI 15 (some 18) (bs 31 238878719) ?_
    refine pI 16 (some 19) (bs 31 238944255) ?_
    refine tI 17 (some 20) (bs 31 239075327) rfl (by intro w' hS'; have s0 := hS'; obtain ⟨_, e, z0, z1⟩ := pl_cells (Kd.R_below H.out.hl hS') HX.out; injection e with e; injection e with e; subst e; go_simp; with_reducible rfl) hHeld ?_
    refine tI 22 (some 25) (bs 31 243269631) rfl (by intro w' hS'; have s0 := hS'; have hb0 := (hS'.block _ (blk_lt H.out.blk)).trans H.out.blk; have c0 := cell_of (i := 0) hb0 rfl; have c4 := cell_of (i := 4) hb0 rfl; have c6 := cell_of (i := 6) hb0 rfl; go_simp; with_reducible rfl) hHeld ?_
    refine pI 23 (some 26) (bs 31 251658239) ?_
    refine pI 24 (some 27) (bs 31 268435455) ?_
    refine tI 28 (some 31) (bs 31 536870911) rfl (by intro w' hS'; have s0 := hS'; have hb0 := (hS'.block _ (blk_lt H.out.blk)).trans H.out.blk; have c0 := cell_of (i := 0) hb0 rfl; have c4 := cell_of (i := 4) hb0 rfl; have c6 := cell_of (i := 6) hb0 rfl; go_simp; with_reducible rfl) hHeld ?_
    refine pI 29 (some 32) (bs 31 1073741823) ?_
    refine pI 30 (some 33) (bs 31 2147483647) ?_
    refine done_ (by kernel_rfl) ?_
    have hS3 := H.out.below HD3.out
    have hd3 : d ≤ w3.heap.size := Nat.le_of_lt (blk_lt hS3.blk)
    have c6 := cell_of (i := 6) hS3.blk rfl
    have f6 := frozen_of hS3.blk 6
    rcases Nat.eq_zero_or_pos i with h0 | h0
    ·subst h0
     have HS4 := As.mk (show SkAt (w3.setCell ⟨d, 6, none⟩ (.slice (some ⟨gl, 0, none⟩) last.length cl)) d v Ap cp g (.slice (some ⟨gl, 0, none⟩) last.length cl) p xs T (forgetL (p.length : Int) (xs.length : Int) last) by
      unfold forgetL
      rw [HN2.out, List.drop_zero]
      exact hS3.kp (Kp.set hS3.blk 6 _) (blk_put hS3.blk 6 _ rfl) (Kd.R_set hS3.hl hS3.blk (by decide) 6 _))
     have HK4 := As.mk ((Kp.of HD3.out (Nat.le_of_lt hdw)).trans (Kp.set hS3.blk 6 (.slice (some ⟨gl, 0, none⟩) last.length cl)))
     have hcl := (Kd.R_reads' hS3.hl).2.1
     clear hS3
     go_wp2_with (go_at_call 134; refine (delete_zero hcl _).mono ?_; rintro e w4 ⟨rfl, rfl⟩)
     go_end0
     exact ⟨rfl, _, HS4.out, HK4.out⟩
    ·have hil : i < last.length := by omega
     obtain ⟨m, hm⟩ : ∃ m, last.length = m + i := ⟨last.length - i, by omega⟩
     obtain ⟨x0, hx0⟩ : ∃ x, last[i]? = some x := ⟨_, List.getElem?_eq_getElem hil⟩
     obtain ⟨gl', hA, _, _⟩ := pl_cells hS3.hl hx0
     injection hA with hA; injection hA with hA; subst hA
     have HDL := As.mk (delete_pl hS3.hl h0 hm (by omega) hd3)
     have HS3 := As.mk hS3
     clear hS3 hx0 hm
     go_wp2_with (go_at_call 134; refine HDL.out.mono ?_; rintro e w4 ⟨rfl, hr, hk, hz⟩; have HR4 := As.mk hr; have HK4 := As.mk hk; have HB4 := As.mk ((hz d (pl_ne HS3.out.hl HS3.out.blk (by decide)) (blk_lt HS3.out.blk)).trans HS3.out.blk); clear hr hk hz c6 f6; have f6 := frozen_of HB4.out 6; have c6 := cell_of (i := 6) HB4.out rfl)
     go_end0
     refine ⟨rfl, .slice (some ⟨gl, 0, none⟩) m cl, ?_, ((Kp.of HD3.out (Nat.le_of_lt hdw)).trans HK4.out).trans (Kp.set HB4.out 6 _)⟩
     unfold forgetL
     rw [HN2.out]
     exact HS3.out.kp (HK4.out.trans (Kp.set HB4.out 6 _)) (blk_put HB4.out 6 _ rfl) (Kd.R_set HR4.out HB4.out (by decide) 6 _)
  ·have hltI : decide ((i1 : Int) < (last.length : Int)) = false := decide_eq_false (by omega)
   have hN := HN.out
   rw [forgetN_end (by have := HI1.out; omega), Nat.add_zero] at hN
   have HN2 := As.mk hN
   clear hN HN
   go_wp2_with fail
   refine start_ (n := 31) (S := fun w' => Below w.heap.size w w') (ds := []) #[false, false, false, false, false, false, false, false, false, false, false, false, false, false, false, false, false, false, false, false, false, false, false, false, false, false, false, false, false, false, false] (by kernel_rfl) rfl rfl (below_drew1 HWr.out) (fun hHeld => ?_)
   have HD3 := As.mk (below_drew1 HWr.out); clear hHeld; generalize wr.drew = w3 at HD3 ⊢; have hHeld := HD3.out
   refine pI 0 (some 3) (bs 31 1) ?_
   refine pI 1 (some 4) (bs 31 3) ?_
   refine pI 2 (some 5) (bs 31 7) ?_
   refine pI 3 (some 6) (bs 31 15) ?_
   refine pI 4 (some 7) (bs 31 31) ?_
   refine tI 5 (some 8) (bs 31 63) rfl (by intro w' hS'; have s0 := hS'; have hb0 := (hS'.block _ (blk_lt H.out.blk)).trans H.out.blk; have c0 := cell_of (i := 0) hb0 rfl; have c4 := cell_of (i := 4) hb0 rfl; have c6 := cell_of (i := 6) hb0 rfl; go_simp; with_reducible rfl) hHeld ?_
   refine pI 6 (some 9) (bs 31 127) ?_
   refine pI 7 (some 10) (bs 31 255) ?_
   refine pI 8 (some 11) (bs 31 511) ?_
   refine pO 9 (some 12) (bs 31 1023) ?_
   refine pO 10 (some 13) (bs 31 2047) ?_
   refine pO 11 (some 14) (bs 31 4095) ?_
   refine pO 12 (some 15) (bs 31 8191) ?_
   refine pO 13 (some 16) (bs 31 16383) ?_
   refine pO 14 (some 17) (bs 31 32767) ?_
   refine pO 15 (some 18) (bs 31 65535) ?_
   refine pO 16 (some 19) (bs 31 131071) ?_
   refine pO 17 (some 20) (bs 31 262143) ?_
   refine pO 18 (some 21) (bs 31 524287) ?_
   refine pO 19 (some 22) (bs 31 1048575) ?_
   refine pO 20 (some 23) (bs 31 2097151) ?_
   refine pO 21 (some 24) (bs 31 4194303) ?_
   refine pO 22 (some 25) (bs 31 8388607) ?_
   refine pO 23 (some 26) (bs 31 16777215) ?_
   refine pO 24 (some 27) (bs 31 33554431) ?_
   refine pO 25 (some 28) (bs 31 67108863) ?_
   refine pO 26 (some 29) (bs 31 134217727) ?_
   refine pO 27 (some 30) (bs 31 268435455) ?_
   refine pO 28 (some 31) (bs 31 536870911) ?_
   refine pO 29 (some 32) (bs 31 1073741823) ?_
   refine pI 30 (some 33) (bs 31 2147483647) ?_
   refine done_ (by kernel_rfl) ?_
   have hS3 := H.out.below HD3.out
   have hd3 : d ≤ w3.heap.size := Nat.le_of_lt (blk_lt hS3.blk)
   have c6 := cell_of (i := 6) hS3.blk rfl
   have f6 := frozen_of hS3.blk 6
   rcases Nat.eq_zero_or_pos i with h0 | h0
   ·subst h0
    have HS4 := As.mk (show SkAt (w3.setCell ⟨d, 6, none⟩ (.slice Al last.length cl)) d v Ap cp g (.slice Al last.length cl) p xs T (forgetL (p.length : Int) (xs.length : Int) last) by
     unfold forgetL
     rw [HN2.out, List.drop_zero]
     exact hS3.kp (Kp.set hS3.blk 6 _) (blk_put hS3.blk 6 _ rfl) (Kd.R_set hS3.hl hS3.blk (by decide) 6 _))
    have HK4 := As.mk ((Kp.of HD3.out (Nat.le_of_lt hdw)).trans (Kp.set hS3.blk 6 (.slice Al last.length cl)))
    have hcl := (Kd.R_reads' hS3.hl).2.1
    clear hS3
    go_wp2_with (go_at_call 134; refine (delete_zero hcl _).mono ?_; rintro e w4 ⟨rfl, rfl⟩)
    go_end0
    exact ⟨rfl, _, HS4.out, HK4.out⟩
   ·have hil : i < last.length := by omega
    obtain ⟨m, hm⟩ : ∃ m, last.length = m + i := ⟨last.length - i, by omega⟩
    obtain ⟨x0, hx0⟩ : ∃ x, last[i]? = some x := ⟨_, List.getElem?_eq_getElem hil⟩
    obtain ⟨gl', hA, _, _⟩ := pl_cells hS3.hl hx0
    subst hA
    have HDL := As.mk (delete_pl hS3.hl h0 hm (by omega) hd3)
    have HS3 := As.mk hS3
    clear hS3 hx0 hm
    go_wp2_with (go_at_call 134; refine HDL.out.mono ?_; rintro e w4 ⟨rfl, hr, hk, hz⟩; have HR4 := As.mk hr; have HK4 := As.mk hk; have HB4 := As.mk ((hz d (pl_ne HS3.out.hl HS3.out.blk (by decide)) (blk_lt HS3.out.blk)).trans HS3.out.blk); clear hr hk hz c6 f6; have f6 := frozen_of HB4.out 6; have c6 := cell_of (i := 6) HB4.out rfl)
    go_end0
    refine ⟨rfl, .slice (some ⟨gl', 0, none⟩) m cl, ?_, ((Kp.of HD3.out (Nat.le_of_lt hdw)).trans HK4.out).trans (Kp.set HB4.out 6 _)⟩
    unfold forgetL
    rw [HN2.out]
    exact HS3.out.kp (HK4.out.trans (Kp.set HB4.out 6 _)) (blk_put HB4.out 6 _ rfl) (Kd.R_set HR4.out HB4.out (by decide) 6 _)
end Go.Proofs.YtkffhgiiejbnaaaGreat.Sk
