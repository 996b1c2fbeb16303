import Derived.BigQuiet
import Derived.Test.YtkffhgiiejbnaaaGreatZEncI
import Derived.Test.YtkffhgiiejbnaaaGreatZRefB
import Derived.Test.YtkffhgiiejbnaaaGreatZRefS
import Derived.Test.YtkffhgiiejbnaaaGreatZHp
import Derived.Test.YtkffhgiiejbnaaaGreatZBndA
import Derived.Test.YtkffhgiiejbnaaaGreatZ01
import Derived.Test.YtkffhgiiejbnaaaGreatZ02
import Derived.Test.YtkffhgiiejbnaaaGreatZRefT
import Derived.Test.YtkffhgiiejbnaaaGreatZEncG
import Derived.Test.YtkffhgiiejbnaaaGreatZVocC
import Derived.Test.YtkffhgiiejbnaaaGreatZOf
import Derived.Test.YtkffhgiiejbnaaaGreatZ03
import Derived.Test.YtkffhgiiejbnaaaGreatZMarkRef
import Derived.Test.YtkffhgiiejbnaaaGreatZEncP
set_option maxRecDepth 100000
set_option maxHeartbeats 4000000
set_option linter.unusedVariables false
set_option linter.unusedSimpArgs false
set_option linter.unnecessarySimpa false
namespace Go.Proofs.YtkffhgiiejbnaaaGreat.En
open Go.Shelf Go.RowKit YtkffhgiiejbnaaaGreatW.PrintWords YtkffhgiiejbnaaaGreatW.PrintLast YtkffhgiiejbnaaaGreatW.PrintMore Rf Aid Mp Hp Bn Tk Vc Rg Go.Proofs.YtkffhgiiejbnaaaGreat.Fn
def sE : Sp := ⟨[⟨97, 98⟩], [⟨300, ⟨#[60]⟩⟩], [], []⟩
theorem sE_ok : VOk sE := ⟨⟨by decide, by decide, by decide, by decide, (fun x h => by rw [List.mem_singleton.1 h]; decide), (fun x h => by rw [List.mem_singleton.1 h]; decide), (fun _ h => nomatch h), (fun _ h => nomatch h)⟩, by kernel_rfl, by kernel_rfl, (fun x h => by rw [List.mem_singleton.1 h]; exact of_decide_eq_true (by kernel_rfl))⟩
theorem tE : tokL sE (Mk.parseP sE.X ⟨#[97, 98, 60, 97]⟩) = [256, 300, 97] := by kernel_rfl
theorem pE : tokL sE (Mk.parseP [] ⟨#[97, 98, 60, 97]⟩) = [256, 60, 97] := by kernel_rfl
theorem dr_below {w w' : World} (h : Drawn w w') : Below w.heap.size w w' := by
 obtain ⟨n, rfl⟩ := h
 exact pw_below_drewN (Below.refl _ _) n
theorem ints_same {xs : List Int} {n : Nat} (hn : xs.length = n) (A B : Option Addr) (c d : Nat) (w : World) (hr0 : Kd.C (Kd.int .i64) w A xs.length xs) (hc0 : xs.length ≤ c) (hr1 : Kd.C (Kd.int .i64) w B xs.length xs) (hc1 : xs.length ≤ d) (hl : xs.length ≤ 9223372036854775807) :
  Calls Tryz.prog 20 #[.slice A n c, .slice B n d] w fun e w' => e = .returned (.bool true) ∧ Below w.heap.size w w' := by
 subst hn
 refine (ints_any xs xs A B c d w hr0 hc0 hr1 hc1 hl).mono ?_
 rintro e w' ⟨rfl, hb⟩
 exact ⟨by rw [decide_eq_true rfl], dr_below hb⟩
theorem awk_ints (x y z : Int) {w : World} {A : Option Addr} {c : Nat} (h : Kd.C (Kd.int .i64) w A [x, y, z].length [x, y, z]) (hc : [x, y, z].length ≤ c) :
  Calls Tryz.prog 20 #[.slice A 3 c, .slice (some ⟨w.heap.size, 0, none⟩) 3 3] (w.alloc (.cells #[.int .i64 x, .int .i64 y, .int .i64 z] 3)) fun e w' => e = .returned (.bool true) ∧ Below w.heap.size w w' := by
 have h2 := C_ints w 3 [x, y, z] (show 3 ≤ 9223372036854775807 by omega)
 have h1 := Kd.C_alloc h (.cells ([x, y, z].map (Value.int .i64)).toArray 3)
 have h3 := ints_same (n := 3) rfl A (some ⟨w.heap.size, 0, none⟩) c 3 _ h1 hc h2 (Nat.le_refl _) (show 3 ≤ 9223372036854775807 by omega)
 refine h3.mono ?_
 rintro e w' ⟨rfl, hb⟩
 exact ⟨rfl, bt_ (below_alloc (Below.refl _ _) _) hb⟩
theorem awk_worlds (w : World) : ((w.alloc (.cells #[.int .i64 97, .int .i64 98] 91 (0, 0))).alloc (.cells #[.int .i64 300, .string ⟨#[60]⟩] 93 (0, 0))).heap[w.heap.size]? = some (.cells #[.int .i64 97, .int .i64 98] 91 (0, 0)) ∧ ((w.alloc (.cells #[.int .i64 97, .int .i64 98] 91 (0, 0))).alloc (.cells #[.int .i64 300, .string ⟨#[60]⟩] 93 (0, 0))).heap[w.heap.size + 1]? = some (.cells #[.int .i64 300, .string ⟨#[60]⟩] 93 (0, 0)) := by
 generalize Obj.cells #[.int .i64 97, .int .i64 98] 91 (0, 0) = a
 generalize Obj.cells #[.int .i64 300, .string ⟨#[60]⟩] 93 (0, 0) = b
 have h : ((w.alloc a).alloc b).heap = (w.heap.push a).push b := rfl
 rw [h]
 refine ⟨?_, ?_⟩
 ·rw [Array.getElem?_push, if_neg (by simp), Array.getElem?_push, if_pos rfl]
 ·rw [Array.getElem?_push, if_pos (by simp)]
theorem awake_any (w : World) : Calls Tryz.prog 14 #[] w fun e w' => e = .returned (.bool true) ∧ Below w.heap.size w w' := by
 have HW := awk_worlds w
 have HB0 := As.mk (below_alloc (below_alloc (Below.refl w.heap.size w) (.cells #[.int .i64 97, .int .i64 98] 91)) (.cells #[.int .i64 300, .string ⟨#[60]⟩] 93))
 have hsz : w.heap.size ≤ ((w.alloc (.cells #[.int .i64 97, .int .i64 98] 91 (0, 0))).alloc (.cells #[.int .i64 300, .string ⟨#[60]⟩] 93 (0, 0))).heap.size := HB0.out.size
 have hat : SpAt ((w.alloc (.cells #[.int .i64 97, .int .i64 98] 91 (0, 0))).alloc (.cells #[.int .i64 300, .string ⟨#[60]⟩] 93 (0, 0))) (some ⟨w.heap.size, 0, none⟩) (some ⟨w.heap.size + 1, 0, none⟩) none none sE :=
  ⟨Rt.C_blk_mrg HW.1, Rt.C_blk_sp (y := ⟨300, ⟨#[60]⟩⟩) HW.2, ⟨rfl, by decide, fun h => absurd h (by decide)⟩, ⟨rfl, by decide, fun h => absurd h (by decide)⟩⟩
 have hn := new_ok 1 1 0 0 hat sE_ok
 rw [show spV (some ⟨w.heap.size, 0, none⟩) (some ⟨w.heap.size + 1, 0, none⟩) none none 1 1 0 0 sE = .agg #[.bool false, .slice (some ⟨w.heap.size, 0, none⟩) 1 1, .slice none 0 0, .slice (some ⟨w.heap.size + 1, 0, none⟩) 1 1, .slice none 0 0, .slice none 0 0] from rfl] at hn
 have HN := As.mk hn
 clear hn hat HW
 have hz : ∀ w, (zeroValue 95).run Tryz.prog w = .ok (.agg #[.bool false, .slice none 0 0, .slice none 0 0, .slice none 0 0, .slice none 0 0, .slice none 0 0]) w := fun w => by kernel_rfl
 go_enter Tryz.func14, Tryz.ntmps14
 go_wp2_with (first
  | (go_at_call 50; refine HN.out.mono ?_; rintro e w1 ⟨v, rfl, hv, hle, hb⟩; have HV1 := As.mk hv; have HB1 := As.mk (HB0.out.trans (hb.mono hsz)); clear hv hle hb HN)
  | (go_at_call 23; have ht := text_any HV1.out sE_ok.sp ⟨#[97, 98, 60, 97]⟩ (by decide); rw [tE] at ht; refine ht.mono ?_; clear ht; rintro e w2 ⟨sa, rfl, ha, hb⟩; have HA2 := As.mk ha; have HV2 := As.mk (HV1.out.below hb); have HB2 := As.mk (bt_ HB1.out hb); clear ha hb HV1)
  | (go_at_call 24; have ht := plain_any HV2.out sE_ok.sp ⟨#[97, 98, 60, 97]⟩ (by decide); rw [pE] at ht; refine ht.mono ?_; clear ht; rintro e w3 ⟨sb, rfl, ha, hb⟩; have HP3 := As.mk ha; have HA3 := As.mk (Kd.R_below HA2.out hb); have HB3 := As.mk (bt_ HB2.out hb); clear ha hb HV2; obtain ⟨Aa, ca, rfl, hca, hCa⟩ := Kd.R_reads HA3.out; obtain ⟨Ab, cb, rfl, hcb, hCb⟩ := Kd.R_reads HP3.out; have HCa := As.mk hCa; have HCb := As.mk hCb; clear hCa hCb HA2 HA3 HP3)
  | (go_at_call 20; refine (awk_ints 256 300 97 HCa.out hca).mono ?_; rintro e w4 ⟨rfl, hb⟩; have HB4 := As.mk (bt_ HB3.out hb); have HC4 := As.mk (Kd.C_below HCb.out hb); clear hb HCa)
  | (go_at_call 20; refine (awk_ints 256 60 97 HC4.out hcb).mono ?_; rintro e w5 ⟨rfl, hb⟩; have HB5 := As.mk (bt_ HB4.out hb); clear hb))
 go_ret
 exact ⟨rfl, HB5.out⟩
end Go.Proofs.YtkffhgiiejbnaaaGreat.En
namespace Go.Proofs.YtkffhgiiejbnaaaGreat.Rt
open Go.RowKit YtkffhgiiejbnaaaGreatW.PrintWords YtkffhgiiejbnaaaGreatW.PrintLast YtkffhgiiejbnaaaGreatW.PrintMore Rf Aid Mp Hp Bn
theorem class_run (C : List S165) (J : List S108) (b : Nat) (hb : b < 256) (hC : C.length ≤ 1000000) : ∀ (n k : Nat), n < k → n ≤ C.length → ligatureref08_Table_Class.l0 k (b : Int) ((n : Int) - 1) C J = some (cls (C.take n) b)
 | 0, k, h1, h2 => by
  obtain ⟨k, rfl⟩ : ∃ m, k = m + 1 := ⟨k - 1, by omega⟩
  simp only [ligatureref08_Table_Class.l0]
  rw [if_neg (by omega)]
  rfl
 | n + 1, k, h1, h2 => by
  obtain ⟨k, rfl⟩ : ∃ m, k = m + 1 := ⟨k - 1, by omega⟩
  have hlt : n < C.length := by omega
  have e1 : (((n + 1 : Nat) : Int) - 1) = (n : Int) := by omega
  have hrd : rd_T165 C (n : Int) = C[n] := by unfold rd_T165; rw [Int.toNat_natCast, List.getD_eq_getElem?_getD, List.getElem?_eq_getElem hlt]; rfl
  have hw : wrap64 (b : Int) = (b : Int) := w64 (by omega) (by omega)
  have hw2 : wrap64 ((n : Int) - 1) = (n : Int) - 1 := w64 (by omega) (by omega)
  rw [e1]
  simp only [ligatureref08_Table_Class.l0]
  rw [if_pos (by omega), if_pos (by omega), if_pos (by omega), hrd, hw, hw2, class_run C J b hb hC n k (by omega) (by omega), List.take_succ_eq_append_getElem hlt, cls_snoc]
  by_cases g1 : (b : Int) ≥ (C[n]).f0
  ·rw [if_pos g1]
   by_cases g2 : (b : Int) ≤ (C[n]).f1
   ·rw [if_pos g2, if_pos ⟨g1, g2⟩]
   ·rw [if_neg g2, if_neg (fun h => g2 h.2)]
  ·rw [if_neg g1, if_neg (fun h => g1 h.1)]
theorem class_some (C : List S165) (J : List S108) (b : Nat) (hb : b < 256) (hC : C.length ≤ 1000000) (k : Nat) (hk : C.length < k) : ligatureref08_Table_Class.f k C J (b : Int) = some (cls C b) := by
 have := class_run C J b hb hC C.length k hk (Nat.le_refl _)
 rw [List.take_of_length_le (Nat.le_refl _)] at this
 unfold ligatureref08_Table_Class.f
 rw [w64 (by omega) (by omega)]
 exact this
def cutI (C : List S165) (J : List S108) (a b : Nat) : Bool := (cls C a != cls C b) && !(J.any (fun j => decide (j.f0 = cls C a ∧ j.f1 = cls C b)))
theorem cuts_run (C : List S165) (J : List S108) (x y : Int) (hJ : J.length ≤ 1000000) : ∀ (d k i : Nat), J.length - i = d → d < k → i ≤ J.length → ligatureref08_Table_Cuts.l0 k x y (i : Int) C J = some ((x != y) && !((J.drop i).any (fun j => decide (j.f0 = x ∧ j.f1 = y))))
 | 0, k, i, h0, h1, h2 => by
  obtain ⟨k, rfl⟩ : ∃ m, k = m + 1 := ⟨k - 1, by omega⟩
  simp only [ligatureref08_Table_Cuts.l0]
  rw [if_neg (by omega), List.drop_eq_nil_of_le (by omega)]
  simp
 | d + 1, k, i, h0, h1, h2 => by
  obtain ⟨k, rfl⟩ : ∃ m, k = m + 1 := ⟨k - 1, by omega⟩
  have hlt : i < J.length := by omega
  have hrd : rd_T108 J (i : Int) = J[i] := by unfold rd_T108; rw [Int.toNat_natCast, List.getD_eq_getElem?_getD, List.getElem?_eq_getElem hlt]; rfl
  have hw : wrap64 ((i : Int) + 1) = ((i + 1 : Nat) : Int) := (w64 (by omega) (by omega)).trans (by omega)
  simp only [ligatureref08_Table_Cuts.l0]
  rw [if_pos (by omega), if_pos (by omega), hrd, hw, cuts_run C J x y hJ d k (i + 1) (by omega) (by omega) (by omega), List.drop_eq_getElem_cons hlt, List.any_cons]
  by_cases g1 : (J[i]).f0 = x
  ·rw [if_pos g1]
   by_cases g2 : (J[i]).f1 = y
   ·rw [if_pos g2, decide_eq_true ⟨g1, g2⟩]; simp
   ·rw [if_neg g2, decide_eq_false (fun h => g2 h.2), Bool.false_or]
  ·rw [if_neg g1, decide_eq_false (fun h => g1 h.1), Bool.false_or]
theorem cuts_some (C : List S165) (J : List S108) (a b : Nat) (ha : a < 256) (hb : b < 256) (hC : C.length ≤ 1000000) (hJ : J.length ≤ 1000000) (k : Nat) (hk : C.length < k) (hk2 : J.length < k) : ligatureref08_Table_Cuts.f k C J (a : Int) (b : Int) = some (cutI C J a b) := by
 unfold ligatureref08_Table_Cuts.f
 rw [class_some C J a ha hC k hk, class_some C J b hb hC k hk]
 have := cuts_run C J (cls C a) (cls C b) hJ J.length k 0 (by omega) hk2 (by omega)
 rw [List.drop_zero] at this
 exact this
end Go.Proofs.YtkffhgiiejbnaaaGreat.Rt
namespace Go.Proofs.YtkffhgiiejbnaaaGreat.Rf
open Go.RowKit YtkffhgiiejbnaaaGreatW.PrintWords YtkffhgiiejbnaaaGreatW.PrintLast YtkffhgiiejbnaaaGreatW.PrintMore Aid Mp Hp Bn
theorem cell_of {w : World} {p t i : Nat} {cs : Array Value} {v : Value} (h : w.heap[p]? = some (.cells cs t (0, 0))) (hv : cs[i]? = some v) : w.cell? ⟨p, i, none⟩ = some v := by simp only [World.cell?, h]; exact hv
end Go.Proofs.YtkffhgiiejbnaaaGreat.Rf
namespace Go.Proofs.YtkffhgiiejbnaaaGreat.Rt
open Go.RowKit YtkffhgiiejbnaaaGreatW.PrintWords YtkffhgiiejbnaaaGreatW.PrintLast YtkffhgiiejbnaaaGreatW.PrintMore Rf Aid Mp Hp Tk Vc Ch En
def Ev {α : Type} (g : Nat → Option α) (r : α) : Prop := ∃ k0, ∀ k, k0 ≤ k → g k = some r
theorem Ev.step {α : Type} {g g' : Nat → Option α} {r : α} (h : ∀ k, g (k + 1) = g' k) (H : Ev g' r) : Ev g r := by
 obtain ⟨k0, hk⟩ := H
 refine ⟨k0 + 1, fun k hle => ?_⟩
 obtain ⟨m, rfl⟩ : ∃ m, k = m + 1 := ⟨k - 1, by omega⟩
 rw [h, hk m (by omega)]
theorem Ev.bind {α β : Type} {g : Nat → Option α} {h : Nat → α → Option β} {a : α} {r : β} (H : Ev g a) (K : Ev (fun k => h k a) r) : Ev (fun k => (g k).bind (h k)) r := by
 obtain ⟨k0, h0⟩ := H
 obtain ⟨k1, h1⟩ := K
 exact ⟨max k0 k1, fun k hk => by show (g k).bind (h k) = _; rw [h0 k (by omega)]; exact h1 k (by omega)⟩
theorem Ev.done {α : Type} {r : α} : Ev (fun _ => some r) r := ⟨0, fun _ _ => rfl⟩
end Go.Proofs.YtkffhgiiejbnaaaGreat.Rt
namespace Go.Proofs.YtkffhgiiejbnaaaGreat.Rt
open Go.RowKit YtkffhgiiejbnaaaGreatW.PrintWords YtkffhgiiejbnaaaGreatW.PrintLast YtkffhgiiejbnaaaGreatW.PrintMore Rf Aid Mp Hp Tk Vc Ch En Bn
def cutQ (s : Vc.Sp) (a b : Int) : Bool := decide (a < 0 ∨ b < 0 ∨ cutP s a.toNat b.toNat = true)
def addH (a : Int) : List (List Int) → List (List Int)
 | [] => [[a]]
 | p :: ps => (a :: p) :: ps
def grp (s : Vc.Sp) : List Int → List (List Int)
 | [] => []
 | [a] => [[a]]
 | a :: b :: l => if cutQ s a b = true then [a] :: grp s (b :: l) else addH a (grp s (b :: l))
theorem grp_two (s : Vc.Sp) (a b : Int) (l : List Int) : grp s (a :: b :: l) = if cutQ s a b = true then [a] :: grp s (b :: l) else addH a (grp s (b :: l)) := rfl
theorem grp_ne (s : Vc.Sp) : ∀ (a : Int) (l : List Int), ∃ p ps, grp s (a :: l) = p :: ps
 | a, [] => ⟨[a], [], rfl⟩
 | a, b :: l => by
  rw [grp_two]
  split
  ·exact ⟨_, _, rfl⟩
  ·obtain ⟨p, ps, h⟩ := grp_ne s b l
   rw [h]
   exact ⟨_, _, rfl⟩
theorem pcsL_fuel {s : Vc.Sp} {f g : Nat} {xs : List Int} (h1 : xs.length ≤ f) (h2 : xs.length ≤ g) : pcsL s f xs = pcsL s g xs := by
 rw [← pcsF_map s f none 0 xs, ← pcsF_map s g none 0 xs, pcsF_fuel f g none 0 xs h1 h2]
theorem cutN_two (s : Vc.Sp) (a b : Int) (l : List Int) : cutN s (a :: b :: l) = if cutQ s a b = true then 1 else 1 + cutN s (b :: l) := by
 conv => lhs; unfold cutN
 unfold cutQ
 simp only [decide_eq_true_eq]
theorem pcsL_grp (s : Vc.Sp) : ∀ (f : Nat) (xs : List Int), xs.length ≤ f → pcsL s f xs = grp s xs
 | 0, xs, h => by
  obtain rfl : xs = [] := List.eq_nil_of_length_eq_zero (by omega)
  rfl
 | f + 1, [], h => rfl
 | f + 1, [a], h => by
  unfold pcsL
  rw [if_neg (by simp)]
  rw [show cutN s [a] = 1 from rfl]
  show [a] :: pcsL s f [] = [[a]]
  rw [pcsL_grp s f [] (by simp)]
  rfl
 | f + 1, a :: b :: l, h => by
  have hbl : (b :: l).length ≤ f := by simp at h ⊢; omega
  have ih := pcsL_grp s f (b :: l) hbl
  unfold pcsL
  rw [if_neg (by simp), cutN_two, grp_two]
  by_cases hc : cutQ s a b = true
  ·rw [if_pos hc, if_pos hc]
   show [a] :: pcsL s f (b :: l) = _
   rw [ih]
  ·rw [if_neg hc, if_neg hc, Nat.add_comm, List.take_succ_cons, List.drop_succ_cons]
   obtain ⟨f', rfl⟩ : ∃ f', f = f' + 1 := ⟨f - 1, by simp at hbl; omega⟩
   have hle := cutN_le s (b :: l)
   have hp := cutN_pos s (l := b :: l) (by simp)
   have hd : ((b :: l).drop (cutN s (b :: l))).length ≤ f' := by rw [List.length_drop]; omega
   rw [pcsL_fuel (f := f' + 1) (g := f') (by omega) hd]
   have e : pcsL s (f' + 1) (b :: l) = (b :: l).take (cutN s (b :: l)) :: pcsL s f' ((b :: l).drop (cutN s (b :: l))) := by
    conv => lhs; unfold pcsL
    rw [if_neg (by simp)]
   rw [← ih, e]
   rfl
theorem tokL_grp (s : Vc.Sp) (xs : List Int) : tokL s xs = (grp s xs).flatMap (pieceT s) := by
 unfold tokL
 rw [pcsL_grp s xs.length xs (Nat.le_refl _)]
def addE (c : Bool) (G : List (List Int)) (x : Int) : List (List Int) := if c = true then G ++ [[x]] else G.set (G.length - 1) (G.getD (G.length - 1) [] ++ [x])
theorem cutI_P {s : Vc.Sp} (h : SpOk s) (a b : Nat) : cutI s.C s.J a b = cutP s a b := by
 have h1 := cls_range h a
 have h2 := cls_range h b
 unfold cutI cutP joinB
 rw [show ((cls s.C a).toNat : Int) = cls s.C a from Int.toNat_of_nonneg h1.1, show ((cls s.C b).toNat : Int) = cls s.C b from Int.toNat_of_nonneg h2.1]
 congr 1
 by_cases e : cls s.C a = cls s.C b
 ·simp [e]
 ·simp [e]
end Go.Proofs.YtkffhgiiejbnaaaGreat.Rt
namespace Go.Proofs.YtkffhgiiejbnaaaGreat.Rt
open Go.RowKit YtkffhgiiejbnaaaGreatW.PrintWords YtkffhgiiejbnaaaGreatW.PrintLast YtkffhgiiejbnaaaGreatW.PrintMore Rf Aid Mp Hp Tk Vc Ch En Bn
theorem grp_mem (s : Vc.Sp) : ∀ l : List Int, ∀ p ∈ grp s l, p ≠ [] ∧ ∀ x ∈ p, x ∈ l
 | [], p, h => by cases h
 | [a], p, h => by
  rw [show grp s [a] = [[a]] from rfl, List.mem_singleton] at h
  subst h
  exact ⟨by simp, fun x hx => hx⟩
 | a :: b :: l, p, h => by
  have ih := grp_mem s (b :: l)
  rw [grp_two] at h
  split at h
  ·rcases List.mem_cons.1 h with h | h
   ·subst h; exact ⟨by simp, fun x hx => by rw [List.mem_singleton.1 hx]; exact List.mem_cons_self⟩
   ·exact ⟨(ih p h).1, fun x hx => List.mem_cons_of_mem _ ((ih p h).2 x hx)⟩
  ·obtain ⟨q, qs, hq⟩ := grp_ne s b l
   rw [hq] at h ih
   rcases List.mem_cons.1 h with h | h
   ·subst h
    exact ⟨by simp, fun x hx => by
     rcases List.mem_cons.1 hx with hx | hx
     ·rw [hx]; exact List.mem_cons_self
     ·exact List.mem_cons_of_mem _ ((ih q List.mem_cons_self).2 x hx)⟩
   ·exact ⟨(ih p (List.mem_cons_of_mem _ h)).1, fun x hx => List.mem_cons_of_mem _ ((ih p (List.mem_cons_of_mem _ h)).2 x hx)⟩
theorem tok_len (s : Vc.Sp) (xs : List Int) : (tokL s xs).length ≤ xs.length := by
 rw [← tokP_eq s none 0 xs]
 exact tokP_len s _ _ _ _
end Go.Proofs.YtkffhgiiejbnaaaGreat.Rt
namespace Go.Proofs.YtkffhgiiejbnaaaGreat.Dc
open Go.Shelf Go.RowKit YtkffhgiiejbnaaaGreatW.PrintWords YtkffhgiiejbnaaaGreatW.PrintLast YtkffhgiiejbnaaaGreatW.PrintMore Rf Aid Mp Hp Tk Vc
theorem itF_err (s : Sp) : ∀ (l : List Int) (n : Nat) (xs : List Int), (itF s l n xs).2.2 = 0 ∨ ((itF s l n xs).2.2 = 4 ∧ (itF s l n xs).1 = [])
 | [], n, xs => .inl rfl
 | id :: l, n, xs => by
  unfold itF
  split
  ·exact itF_err s l _ _
  ·exact .inr ⟨rfl, rfl⟩
theorem itF_len (s : Sp) (h : ∀ id, (itemsOf s id).length ≤ 64) : ∀ (l : List Int) (n : Nat) (xs : List Int), (itF s l n xs).1.length ≤ xs.length + 64 * l.length
 | [], n, xs => by simp [itF]
 | id :: l, n, xs => by
  unfold itF
  split
  ·have h1 := itF_len s h l (n + 1) (xs ++ itemsOf s id)
   have h2 := h id
   rw [List.length_append] at h1
   rw [List.length_cons]
   omega
  ·simp
def rendS (X : List Mk.Sp) (xs : List Int) : ByteArray := match Mk.rendF (Mk.hasP X) xs with | some l => ⟨l.toArray⟩ | none => ⟨#[]⟩
theorem rendV_eq (X : List Mk.Sp) (xs : List Int) : Mk.rendV (Mk.rendF (Mk.hasP X) xs) = .tuple #[.string (rendS X xs), .bool (Mk.rendF (Mk.hasP X) xs).isSome] := by
 unfold Mk.rendV rendS
 cases Mk.rendF (Mk.hasP X) xs <;> rfl
theorem used_below {w : World} {v : Nat} {w1 w2 : World} (h : Used w v w1) (hb : Below w1.heap.size w1 w2) : Used w v w2 := by
 obtain ⟨m, hm⟩ := h
 exact ⟨m, hm.trans (hb.mono (by rw [← set_size w ⟨v, 13, none⟩ (.int .i64 m)]; exact hm.size))⟩
def textF (s : Sp) (ids : List Int) : ByteArray := if (itF s ids 0 []).2.2 = 0 then rendS s.X (itF s ids 0 []).1 else ⟨#[]⟩
theorem text_any {w : World} {v : Nat} {s : Sp} (h : VocAt w v s) (A : Option Addr) (c : Nat) (ids : List Int) (hr : ∀ m : Int, Kd.C (Kd.int .i64) (w.setCell ⟨v, 13, none⟩ (.int .i64 m)) A ids.length ids) (hl : ids.length ≤ 4000) :
  Calls Tryz.prog 76 #[.pointer (some ⟨v, 0, none⟩), .slice A ids.length c] w fun e w' => e = .returned (.tuple #[.string (textF s ids), .int .i64 (itF s ids 0 []).2.1, .int .i64 (itF s ids 0 []).2.2]) ∧ VocAt w' v s ∧ Used w v w' := by
 have HI := As.mk (items_any h A c ids hr (by omega))
 have hlen := itF_len s (items_len h) ids 0 []
 have hle : ¬ (4000 : Int) < (ids.length : Int) := by omega
 have he := itF_err s ids 0 []
 clear h hr
 unfold textF
 generalize itF s ids 0 [] = R at *
 obtain ⟨xs, n, e0⟩ := R
 simp only at *
 have HL := As.mk (show xs.length ≤ 1000000000000 by simp at hlen; omega)
 clear hlen
 rcases he with rfl | ⟨rfl, rfl⟩
 ·rw [if_pos rfl]
  generalize hSS : rendS s.X xs = S
  have HSS := As.mk hSS
  clear hSS
  go_enter Tryz.func76, Tryz.ntmps76
  go_wp2_with (first
   | (go_at_call 29; refine HI.out.mono ?_; rintro e w1 ⟨sv, rfl, ho, hv, hu⟩; obtain ⟨A2, c2, rfl⟩ := Kd.R_slice ho; have HC := As.mk (Kd.R_reads' ho).2.2; have HV := As.mk hv; have HU := As.mk hu; clear ho hv hu HI)
   | (go_at_call 67; refine (marks_any HV.out).mono ?_; rintro e w2 ⟨pm, rfl, hp, rfl⟩; have HP := As.mk hp; clear hp)
   | (go_at_call 105; have hren := Mk.render_any HP.out A2 c2 xs HC.out HL.out; rw [rendV_eq, HSS.out] at hren; generalize (Mk.rendF (Mk.hasP s.X) xs).isSome = bS at *; refine hren.mono ?_; clear hren; rintro e w3 ⟨rfl, hb⟩; have HB := As.mk hb; clear hb))
  go_ret3
  exact ⟨rfl, HV.out.below HB.out, used_below HU.out HB.out⟩
 ·rw [if_neg (by decide)]
  go_enter Tryz.func76, Tryz.ntmps76
  go_wp2_with (go_at_call 29; refine HI.out.mono ?_; rintro e w1 ⟨sv, rfl, ho, hv, hu⟩; have HV := As.mk hv; have HU := As.mk hu; clear ho hv hu HI)
  go_ret3
  exact ⟨rfl, HV.out, HU.out⟩
end Go.Proofs.YtkffhgiiejbnaaaGreat.Dc
namespace Go.Proofs.YtkffhgiiejbnaaaGreat.Rt
open Go.RowKit YtkffhgiiejbnaaaGreatW.PrintWords YtkffhgiiejbnaaaGreatW.PrintLast YtkffhgiiejbnaaaGreatW.PrintMore Rf Aid Mp Hp Tk Vc Dc
theorem great9 (X : List S93) (hX : X.length ≤ 9223372036854775807) : ∀ (d k i : Nat), X.length - i = d → d < k → i ≤ X.length → ∃ g, ligatureref09_Great.l0 k X (i : Int) = some g
 | 0, k, i, h0, h1, h2 => by
  obtain ⟨k, rfl⟩ : ∃ m, k = m + 1 := ⟨k - 1, by omega⟩
  simp only [ligatureref09_Great.l0]
  rw [if_neg (by omega)]
  exact ⟨_, rfl⟩
 | d + 1, k, i, h0, h1, h2 => by
  obtain ⟨k, rfl⟩ : ∃ m, k = m + 1 := ⟨k - 1, by omega⟩
  simp only [ligatureref09_Great.l0]
  rw [if_pos (by omega), if_pos (by omega)]
  split
  ·exact ⟨_, rfl⟩
  ·rw [w64 (by omega) (by omega), show ((i : Int) + 1) = ((i + 1 : Nat) : Int) from by omega]
   exact great9 X hX d k (i + 1) (by omega) (by omega) (by omega)
theorem great_some (L : List Int) (C : List S165) (J : List S108) (X : List S93) (hX : X.length ≤ 9223372036854775807) : ∃ g : Int, ligaturelaw12_Great.f (X.length + 1) L C J X = some g ∧ (g = 0 ∨ g = 1) := by
 obtain ⟨g, hg⟩ := great9 X hX X.length (X.length + 1) 0 (by omega) (by omega) (by omega)
 have hg : ligatureref09_Great.f (X.length + 1) X = some g := hg
 unfold ligaturelaw12_Great.f ligatureref10_Great.f
 rw [hg]
 by_cases h1 : (L.length : Int) > 60
 ·rw [if_pos h1]; exact ⟨1, rfl, .inr rfl⟩
 rw [if_neg h1]
 by_cases h2 : (C.length : Int) > 20
 ·rw [if_pos h2]; exact ⟨1, rfl, .inr rfl⟩
 rw [if_neg h2]
 by_cases h3 : (J.length : Int) > 20
 ·rw [if_pos h3]; exact ⟨1, rfl, .inr rfl⟩
 rw [if_neg h3]
 cases g
 ·exact ⟨0, rfl, .inl rfl⟩
 ·exact ⟨1, rfl, .inr rfl⟩
theorem great_any {A0 A1 A2 A3 : Option Addr} {c0 c1 c2 c3 : Nat} {L : List Int} {C : List S165} {J : List S108} {X : List S93} {w : World} (h : CaseAt w A0 A1 A2 A3 c0 c1 c2 c3 L C J X) :
  ∃ g : Int, (g = 0 ∨ g = 1) ∧ ∀ W, Below w.heap.size w W → Calls Tryz.prog 13 #[caseV A0 A1 A2 A3 c0 c1 c2 c3 L C J X] W fun e w' => e = .returned (.int .i64 g) ∧ Below W.heap.size W w' := by
 obtain ⟨g, hg, h01⟩ := great_some L C J X h.hX.2.1
 refine ⟨g, h01, fun W hW => ?_⟩
 have h' := h.below hW
 exact ligaturelaw12_Great.calls _ A0 c0 L A1 c1 C A2 c2 J A3 c3 X g W h'.hL h'.h0 h'.hC h'.h1 h'.hJ h'.h2 h'.hX h'.h3 hg
end Go.Proofs.YtkffhgiiejbnaaaGreat.Rt
namespace Go.Proofs.YtkffhgiiejbnaaaGreat.Rt
open Go.RowKit YtkffhgiiejbnaaaGreatW.PrintWords YtkffhgiiejbnaaaGreatW.PrintLast YtkffhgiiejbnaaaGreatW.PrintMore Rf Aid Mp Hp Tk Vc Bn En
theorem VocAt.goodX {w : World} {v : Nat} {s : Sp} (h : VocAt w v s) : Mk.GoodS s.X := by
 obtain ⟨_, _, w0, pt, pb, pm, h1, h2, h3, h4, h5, h6, h7, h8⟩ := h
 exact h5.goodS
def Ro (w : World) (v : Value) (xs : List Int) : Prop := Kd.R (Kd.int .i64) 3 w 0 (fun _ => True) v xs
theorem Ro.of {w : World} {b : Nat} {v : Value} {xs : List Int} (h : Kd.R (Kd.int .i64) 3 w b (fun _ => True) v xs) : Ro w v xs := Kd.R_lower h (Nat.zero_le _)
theorem Ro.below {w w' : World} {v : Value} {xs : List Int} (h : Ro w v xs) (hb : Below w.heap.size w w') : Ro w' v xs := Kd.R_below h hb
theorem Ro.form {w : World} {v : Value} {xs : List Int} (h : Ro w v xs) : ∃ A c, v = .slice A xs.length c := Kd.R_slice h
theorem Ro.rd {w : World} {A : Option Addr} {n c : Nat} {xs : List Int} (h : Ro w (.slice A n c) xs) : n = xs.length ∧ n ≤ c ∧ Kd.C (Kd.int .i64) w A xs.length xs := Kd.R_reads' h
theorem Ro.set {w : World} {v : Nat} {s : Sp} {u : Value} {xs : List Int} (h : Ro w u xs) (hv : VocAt w v s) (m : Value) : Ro (w.setCell ⟨v, 13, none⟩ m) u xs := by
 obtain ⟨cs, hb⟩ := hv.blk
 exact Kd.R_set h hb (by decide) 13 m
theorem Ro.used {w w' : World} {v : Nat} {s : Sp} {u : Value} {xs : List Int} (h : Ro w u xs) (hv : VocAt w v s) (hu : Used w v w') : Ro w' u xs := by
 obtain ⟨m, hm⟩ := hu
 exact (h.set hv (.int .i64 m)).below (by rw [set_size w ⟨v, 13, none⟩ (.int .i64 m)]; exact hm)
theorem ints_row {xs : List Int} {n k : Nat} {A B : Option Addr} {c d : Nat} {w : World} (ha : Ro w (.slice A n c) xs) (hb : Ro w (.slice B k d) xs) (hl : xs.length ≤ 1000000) :
  Calls Tryz.prog 20 #[.slice A n c, .slice B k d] w fun e w' => e = .returned (.bool true) ∧ Below w.heap.size w w' := by
 obtain ⟨e1, h1, h2⟩ := ha.rd
 obtain ⟨e2, h3, h4⟩ := hb.rd
 subst e1
 subst e2
 exact ints_same rfl A B c d w h2 h1 h4 h3 (by omega)
end Go.Proofs.YtkffhgiiejbnaaaGreat.Rt
namespace Go.Proofs.YtkffhgiiejbnaaaGreat.Rt
open Go.RowKit YtkffhgiiejbnaaaGreatW.PrintWords YtkffhgiiejbnaaaGreatW.PrintLast YtkffhgiiejbnaaaGreatW.PrintMore Rf Aid Mp Hp Tk Vc Ch En Bn
def noCut (s : Vc.Sp) : List Int → Prop
 | a :: b :: l => cutQ s a b = false ∧ noCut s (b :: l)
 | _ => True
def btw (s : Vc.Sp) : List (List Int) → Prop
 | p :: q :: r => cutQ s (p.getLastD 0) (q.headD 0) = true ∧ btw s (q :: r)
 | _ => True
theorem grp_head (s : Vc.Sp) : ∀ (a : Int) (l : List Int), ∃ p ps, grp s (a :: l) = (a :: p) :: ps
 | a, [] => ⟨[], [], rfl⟩
 | a, b :: l => by
  rw [grp_two]
  split
  ·exact ⟨[], _, rfl⟩
  ·obtain ⟨p, ps, h⟩ := grp_head s b l
   rw [h]
   exact ⟨b :: p, ps, rfl⟩
theorem grp_spec (s : Vc.Sp) : ∀ xs : List Int, (grp s xs).flatten = xs ∧ (∀ p ∈ grp s xs, noCut s p) ∧ btw s (grp s xs)
 | [] => ⟨rfl, (fun p hp => by cases hp), trivial⟩
 | [a] => ⟨rfl, (fun p hp => by rw [List.mem_singleton.1 hp]; trivial), trivial⟩
 | a :: b :: l => by
  obtain ⟨h1, h2, h3⟩ := grp_spec s (b :: l)
  obtain ⟨p, ps, h⟩ := grp_head s b l
  rw [grp_two]
  by_cases hc : cutQ s a b = true
  ·rw [if_pos hc]
   refine ⟨by rw [List.flatten_cons, h1]; rfl, fun q hq => ?_, ?_⟩
   ·rcases List.mem_cons.1 hq with e | hq
    ·subst e; trivial
    ·exact h2 q hq
   ·rw [h] at h3 ⊢
    exact ⟨hc, h3⟩
  ·rw [if_neg hc, h]
   rw [h] at h1 h2 h3
   refine ⟨?_, fun q hq => ?_, ?_⟩
   ·show a :: ((b :: p) ++ ps.flatten) = _
    rw [List.flatten_cons] at h1
    rw [h1]
   ·rcases List.mem_cons.1 hq with e | hq
    ·subst e; exact ⟨by simpa using hc, h2 _ (List.mem_cons_self ..)⟩
    ·exact h2 q (List.mem_cons_of_mem _ hq)
   ·cases ps with
    | nil => trivial
    | cons q r => exact ⟨h3.1, h3.2⟩
theorem noCut_at (s : Vc.Sp) : ∀ (p : List Int) (k : Nat) (h : k + 1 < p.length), noCut s p → cutQ s p[k] p[k + 1] = false
 | [], k, h, _ => absurd h (by simp)
 | [a], k, h, _ => absurd h (by simp)
 | a :: b :: l, 0, _, hp => hp.1
 | a :: b :: l, k + 1, h, hp => noCut_at s (b :: l) k (by simpa using h) hp.2
theorem btw_at (s : Vc.Sp) : ∀ (G : List (List Int)) (i : Nat) (h : i + 1 < G.length), btw s G → cutQ s (G[i].getLastD 0) (G[i + 1].headD 0) = true
 | [], k, h, _ => absurd h (by simp)
 | [a], k, h, _ => absurd h (by simp)
 | a :: b :: l, 0, _, hp => hp.1
 | a :: b :: l, k + 1, h, hp => btw_at s (b :: l) k (by simpa using h) hp.2
theorem grp_one (s : Vc.Sp) : ∀ p : List Int, p ≠ [] → noCut s p → grp s p = [p]
 | [], h, _ => absurd rfl h
 | [a], _, _ => rfl
 | a :: b :: l, _, hp => by rw [grp_two, if_neg (by rw [hp.1]; simp), grp_one s (b :: l) (by simp) hp.2]; rfl
theorem pcs_facts {s : Vc.Sp} {P : List Int} {PS : List (Option Addr × List Int)} (h : PS.map (·.2) = pcsL s P.length P) :
  (∀ x ∈ PS, x.2 ≠ [] ∧ (∀ y ∈ x.2, y ∈ P) ∧ tokL s x.2 = pieceT s x.2 ∧ (∀ (k : Nat) (hk : k + 1 < x.2.length), cutQ s x.2[k] x.2[k + 1] = false)) ∧
  (∀ (i : Nat) (hi : i + 1 < PS.length), cutQ s (PS[i].2.getLastD 0) (PS[i + 1].2.headD 0) = true) ∧
  PS.flatMap (·.2) = P ∧ PS.flatMap (fun x => pieceT s x.2) = tokL s P := by
 rw [pcsL_grp s P.length P (Nat.le_refl _)] at h
 obtain ⟨h1, h2, h3⟩ := grp_spec s P
 have hm : ∀ x ∈ PS, x.2 ∈ grp s P := fun x hx => by rw [← h]; exact List.mem_map_of_mem hx
 refine ⟨fun x hx => ?_, fun i hi => ?_, ?_, ?_⟩
 ·have hq := hm x hx
  obtain ⟨a1, a2⟩ := grp_mem s P _ hq
  refine ⟨a1, a2, ?_, fun k hk => noCut_at s _ k hk (h2 _ hq)⟩
  rw [tokL_grp, grp_one s _ a1 (h2 _ hq)]
  simp
 ·have hl : (grp s P).length = PS.length := by rw [← h, List.length_map]
  have hb := btw_at s (grp s P) i (by omega) h3
  have e1 : (grp s P)[i]'(by omega) = PS[i].2 := by simp [← h]
  have e2 : (grp s P)[i + 1]'(by omega) = PS[i + 1].2 := by simp [← h]
  rw [e1, e2] at hb
  exact hb
 ·rw [List.flatMap_def, h, h1]
 ·rw [tokL_grp, ← h, List.flatMap_map]
end Go.Proofs.YtkffhgiiejbnaaaGreat.Rt
namespace Go.Proofs.YtkffhgiiejbnaaaGreat.Rt
open Go.RowKit YtkffhgiiejbnaaaGreatW.PrintWords YtkffhgiiejbnaaaGreatW.PrintLast YtkffhgiiejbnaaaGreatW.PrintMore Rf Aid Mp Hp Tk Vc Bn En
theorem rd_kp {w : World} {A : Option Addr} {n : Nat} {PS : List (Option Addr × List Int)} (h : Kd.C kPc w A n PS) {i : Nat} {x : Option Addr × List Int} (hx : PS[i]? = some x) : ∃ ad, A = some ad ∧ w.cell? (ad.add i) = some (.slice x.1 x.2.length x.2.length) := by
 obtain ⟨hl, _⟩ := List.getElem?_eq_some_iff.1 hx
 obtain ⟨h1, h2, h3⟩ := h
 obtain ⟨ad, e, hc⟩ := h3 (by omega)
 obtain ⟨c, q1, q2, q3⟩ := hc i x hx
 have q2' : c = [.slice x.1 x.2.length x.2.length] := q2
 subst q2'
 have q4 := q3 0 _ rfl
 rw [show i * kPc.sz + 0 = i from by show i * 1 + 0 = i; omega] at q4
 exact ⟨ad, e, q4⟩
theorem rd_ka {w : World} {ad : Addr} {n : Nat} {PS : List (Option Addr × List Int)} (h : Kd.C kPc w (some ad) n PS) {i : Nat} {x : Option Addr × List Int} (hx : PS[i]? = some x) : w.cell? (ad.add i) = some (.slice x.1 x.2.length x.2.length) := by
 obtain ⟨ad', e, hc⟩ := rd_kp h hx
 injection e with e
 subst e
 exact hc
theorem two_next {W w1 : World} {v v1 u : Value} {base : Nat} {us : List Int} (hu : Kd.R (Kd.int .i64) 3 W base (fun k => some k ≠ v.ownBlock) u us) (hg : W.grownBy w1 v.ownBlock) (hat : v1.ownBlock = v.ownBlock ∨ ∃ b, v1.ownBlock = some b ∧ W.heap.size ≤ b) :
  Kd.R (Kd.int .i64) 3 w1 base (fun k => some k ≠ v1.ownBlock) u us := by
 have hb := (Kd.R_bound hu).1
 have h := Kd.R_grown hu hg (fun k hk => hk)
 refine ⟨fun k hk => ?_, h.2⟩
 obtain ⟨h1, _, h3, _⟩ := hb k hk
 rcases hat with e | ⟨b, e, hle⟩
 ·rw [e]; exact h1
 ·rw [e]; intro e'; injection e' with e'; omega
theorem own_fresh {W : World} {u : Value} {base : Nat} {us : List Int} {ok : Nat → Prop} (hu : Kd.R (Kd.int .i64) 3 W base ok u us) : ∀ k, W.heap.size ≤ k → some k ≠ u.ownBlock := fun k hk e => by
 have := ((Kd.R_bound hu).1 k e.symm).2.2.1
 omega
theorem apart_of {W w7 : World} {v x : Value} {base : Nat} {ok ok' : Nat → Prop} {vs xs : List Int} (hv : Kd.R (Kd.int .i64) 3 W base ok v vs) (hx : Kd.R (Kd.int .i64) 3 w7 W.heap.size ok' x xs) : Kd.R (Kd.int .i64) 3 w7 W.heap.size (fun k => some k ≠ v.ownBlock) x xs :=
 ⟨fun k hk e => by
  have h1 := ((Kd.R_bound hx).1 k hk).2.1
  have h2 := ((Kd.R_bound hv).1 k e.symm).2.2.1
  omega, hx.2⟩
theorem last_at {q : List Int} (h : 0 < q.length) : ∃ m : Nat, q.length = m + 1 ∧ q[m]? = some (q.getLastD 0) := by
 refine ⟨q.length - 1, by omega, ?_⟩
 cases q with
 | nil => cases h
 | cons a l =>
  rw [← List.getLast?_eq_getElem?, List.getLast?_eq_some_getLast (by simp)]
  rfl
theorem head_at {q : List Int} (h : 0 < q.length) : q[0]? = some (q.headD 0) := by
 cases q with
 | nil => cases h
 | cons a l => rfl
theorem take_len {α β : Type} (f : α → List β) (l : List α) (i : Nat) : ((l.take i).flatMap f).length ≤ (l.flatMap f).length := by
 conv => rhs; rw [← List.take_append_drop i l, List.flatMap_append, List.length_append]
 omega
theorem take_next {α β : Type} (f : α → List β) {l : List α} {i : Nat} {x : α} (h : l[i]? = some x) : (l.take (i + 1)).flatMap f = (l.take i).flatMap f ++ f x := by
 rw [List.take_add_one, h, List.flatMap_append]
 simp
theorem vcuts_any {w : World} {v : Nat} {A0 B0 A3 A4 A5 : Option Addr} {c0 d0 c3 c4 c5 : Nat} {s : Vc.Sp} (h : RefAt w v A0 B0 A3 A4 A5 c0 d0 c3 c4 c5 s) (hok : VOk s) {a b : Int} (ha : 0 ≤ a ∧ a < 256) (hb : 0 ≤ b ∧ b < 256) :
  Calls Tryz.prog 19 #[.agg #[.slice A4 s.C.length c4, .slice A5 s.J.length c5], .int .u8 a, .int .u8 b] w fun e w' => e = .returned (.bool (cutQ s a b)) ∧ Below w.heap.size w w' := by
 have h1 := hok.sp.nC
 have h2 := hok.sp.nJ
 have hk := Rt.cuts_some s.C s.J a.toNat b.toNat (by omega) (by omega) (by omega) (by omega) (s.C.length + s.J.length + 1) (by omega) (by omega)
 rw [Int.toNat_of_nonneg ha.1, Int.toNat_of_nonneg hb.1, cutI_P hok.sp] at hk
 have hq : cutQ s a b = cutP s a.toNat b.toNat := by
  unfold cutQ
  have n1 : ¬ a < 0 := by omega
  have n2 : ¬ b < 0 := by omega
  simp [n1, n2]
 rw [hq]
 exact ligatureref08_Table_Cuts.calls (s.C.length + s.J.length + 1) A4 c4 s.C A5 c5 s.J a b _ w (Kd.R_reads' h.C).2.2 (Kd.R_reads' h.C).2.1 (Kd.R_reads' h.J).2.2 (Kd.R_reads' h.J).2.1 hk
theorem encodePieces_any {A0 A1 A2 A3 : Option Addr} {c0 c1 c2 c3 : Nat} {L : List Int} {C : List S165} {J : List S108} {X : List S93} {w : World} (h : CaseAt w A0 A1 A2 A3 c0 c1 c2 c3 L C J X) (t : ByteArray) :
  Calls Tryz.prog 3 #[caseV A0 A1 A2 A3 c0 c1 c2 c3 L C J X, .string t] w fun e w' => e = .returned (.bool true) ∧ Below w.heap.size w w' := by
 obtain ⟨g, hg01, hG⟩ := great_any h
 have HG := As.mk hG
 have HC := As.mk h
 clear hG h
 have HB0 := As.mk (below_alloc (Below.refl w.heap.size w) (.cells #[.slice A0 L.length c0, .slice A1 C.length c1, .slice A2 J.length c2, .slice A3 X.length c3] 27))
 have HK0 := As.mk (Go.MapKept.heap_alloc w (.cells #[.slice A0 L.length c0, .slice A1 C.length c1, .slice A2 J.length c2, .slice A3 X.length c3] 27)).1
 unfold caseV at HG ⊢
 have hearly : (g = 1 ∨ (g = 0 ∧ 300 < t.size)) ∨ (g = 0 ∧ t.size ≤ 300) := by omega
 rcases hearly with he | ⟨rfl, hn⟩
 ·have go : ∀ (he : (g = 1) ∨ (g = 0 ∧ (300 : Int) < (t.size : Int))), Calls Tryz.prog 3 #[.agg #[.slice A0 L.length c0, .slice A1 C.length c1, .slice A2 J.length c2, .slice A3 X.length c3], .string t] w fun e w' => e = .returned (.bool true) ∧ Below w.heap.size w w' := by
   clear he
   intro he
   rcases he with rfl | ⟨rfl, h1⟩
   all_goals
    go_enter Tryz.func3, Tryz.ntmps3
    go_wp2_with (first
     | (go_at_call 13; refine (HG.out _ HB0.out).mono ?_; rintro e w1 ⟨rfl, hb⟩; have HB1 := As.mk (bt_ HB0.out hb); have HK1 := As.mk ((hb.block _ (blk_lt HK0.out)).trans HK0.out); clear hb)
     | (go_at_call 14; refine (En.awake_any _).mono ?_; rintro e w2 ⟨rfl, hb⟩; have HB2 := As.mk (bt_ HB1.out hb); clear hb))
    go_ret
    exact ⟨rfl, HB2.out⟩
  exact go (by omega)
 ·have HO := As.mk (fun (W : World) (hb : Below w.heap.size w W) => of_any (HC.out.below hb))
  have HOK := As.mk (some_ok L C J X)
  unfold caseV at HO
  generalize someS L C J X = sp at HO HOK
  unfold vV at HO
  clear hg01
  have hl1 : ¬ (300 : Int) < (t.size : Int) := by omega
  have HL := As.mk hn
  clear hn
  have HP1 := As.mk (parse_right sp t)
  have HN1 := As.mk (Nat.le_trans (parse_len sp.X t) HL.out)
  have HT1 := As.mk (tok_len sp (Mk.parseP sp.X t))
  have HPA := As.mk (fun (W : World) (A : Option Addr) (c : Nat) (hr : Kd.C k93 W A sp.X.length sp.X) (hc : sp.X.length ≤ c) (hg : Mk.GoodS sp.X) => ligatureref09_Parse.calls _ A c sp.X t _ W hr hc (Mk.parse_some hg t (by have := HL.out; omega)))
  generalize Mk.parseP sp.X t = P at *
  have HPI := As.mk (fun (W : World) (v : Nat) (hv : VocAt W v sp) (A : Option Addr) (n c : Nat) (ha : Ro W (.slice A n c) P) => (by
   obtain ⟨e1, h1, h2⟩ := ha.rd
   subst e1
   exact pieces_all hv HOK.out.sp h2 h1 (by have := HN1.out; omega) HP1.out : Calls Tryz.prog 17 #[.pointer (some ⟨v, 0, none⟩), .slice A n c] W fun e w' => ∃ sv PS, e = .returned sv ∧ Kd.R kPc 41 w' W.heap.size (fun _ => True) sv PS ∧ PS.map (·.2) = pcsL sp P.length P ∧ (∀ x ∈ PS, Kd.C (Kd.int .i64) w' x.1 x.2.length x.2) ∧ Below W.heap.size W w'))
  have HIT := As.mk (fun (W : World) (v : Nat) (hv : VocAt W v sp) (xs : List Int) (hx : xs.length ≤ 300) (hri : ∀ x ∈ xs, rightP sp x = true) (A : Option Addr) (c : Nat) (ha : Kd.C (Kd.int .i64) W A xs.length xs) (hc : xs.length ≤ c) => (by
   have ht := En.items_any hv HOK.out.sp ha hc (by omega)
   rw [show itemsE sp xs = (tokL sp xs, (xs.length : Int), 0) by
    unfold itemsE
    rw [if_neg (by omega), show wrongF sp xs = none from List.findIdx?_eq_none_iff.2 (fun x hx => by rw [hri x hx]; rfl)]] at ht
   exact ht : Calls Tryz.prog 18 #[.pointer (some ⟨v, 0, none⟩), .slice A xs.length c] W fun e w' => ∃ sv, e = .returned (.tuple #[sv, .int .i64 (xs.length : Int), .int .i64 0]) ∧ Kd.R (Kd.int .i64) 3 w' W.heap.size (fun _ => True) sv (tokL sp xs) ∧ Below W.heap.size W w'))
  go_enter Tryz.func3, Tryz.ntmps3
  go_wp2_with (first
   | (go_at_call 13; refine (HG.out _ HB0.out).mono ?_; rintro e w1 ⟨rfl, hb⟩; have HB1 := As.mk (bt_ HB0.out hb); have HK1 := As.mk ((hb.block _ (blk_lt HK0.out)).trans HK0.out); clear hb)
   | (go_at_call 14; refine (En.awake_any _).mono ?_; rintro e w2 ⟨rfl, hb⟩; have HB2 := As.mk (bt_ HB1.out hb); have HK2 := (hb.block _ (blk_lt HK1.out)).trans HK1.out; have d0 := cell_of (i := 0) HK2 rfl; have d1 := cell_of (i := 1) HK2 rfl; have d2 := cell_of (i := 2) HK2 rfl; have d3 := cell_of (i := 3) HK2 rfl; clear hb HK2)
   | (go_at_call 15; refine (HO.out _ HB2.out).mono ?_; rintro e w3 ⟨v, B0, D0, B3, B4, B5, e0, f0, e3, e4, e5, rfl, hv, href, hle, hb⟩; have HB3 := As.mk (bt_ HB2.out hb); have hba := below_alloc (Below.refl w3.heap.size w3) (.cells #[.slice B0 (bL (tabOf sp).1).length e0, .slice D0 (mL (tabOf sp).1).length f0, .slice B4 sp.C.length e4, .slice B5 sp.J.length e5, .slice B3 sp.X.length e3] 38); have HB4 := As.mk (below_alloc HB3.out (.cells #[.slice B0 (bL (tabOf sp).1).length e0, .slice D0 (mL (tabOf sp).1).length f0, .slice B4 sp.C.length e4, .slice B5 sp.J.length e5, .slice B3 sp.X.length e3] 38)); have HV4 := As.mk (hv.below hba).at_; have HGD := As.mk (VocAt.goodX hv.at_); have HF4 := As.mk (href.below hba); have HM4 := As.mk (Go.MapKept.heap_alloc w3 (.cells #[.slice B0 (bL (tabOf sp).1).length e0, .slice D0 (mL (tabOf sp).1).length f0, .slice B4 sp.C.length e4, .slice B5 sp.J.length e5, .slice B3 sp.X.length e3] 38)).1; have m4 := cell_of (i := 4) HM4.out rfl; clear hv href hle hb hba d0 d1 d2 d3 HB3)
   | (go_at_call 16; refine (HPA.out _ B3 e3 (Kd.R_reads' HF4.out.X).2.2 (Kd.R_reads' HF4.out.X).2.1 HGD.out).mono ?_; rintro e w5 ⟨sq, rfl, ho, hb⟩; have HQ5 := As.mk (Ro.of ho); have HB5 := As.mk (bt_ HB4.out hb); have HV5 := As.mk (HV4.out.below hb); have HF5 := As.mk (HF4.out.below hb); have HM5 := As.mk ((hb.block _ (blk_lt HM4.out)).trans HM4.out); clear ho hb HV4 HF4 HM4 m4; obtain ⟨Aq, cq, rfl⟩ := HQ5.out.form)
   | (go_at_call 17; refine (HPI.out _ v HV5.out Aq P.length cq HQ5.out).mono ?_; rintro e w6 ⟨sv, PS, rfl, ho, hmap, hcs, hb⟩; obtain ⟨Al, cl, rfl, hcl, hCl⟩ := Kd.R_reads ho; have HCL := As.mk hCl; have HMP := As.mk hmap; have HCS := As.mk hcs; have HQ6 := As.mk (HQ5.out.below hb); have HB6 := As.mk (bt_ HB5.out hb); have HV6 := As.mk (HV5.out.below hb); have HF6 := As.mk (HF5.out.below hb); have HM6 := As.mk ((hb.block _ (blk_lt HM5.out)).trans HM5.out); clear ho hb hmap hcs hCl HV5 HF5 HM5 HQ5))
  clear HPA HPI HG HO HC
  obtain ⟨hf1, hf2, hf3, hf4⟩ := pcs_facts HMP.out
  have HF1 := As.mk hf1
  have HF2 := As.mk hf2
  have HF3 := As.mk hf3
  have HF4 := As.mk hf4
  have HLN := As.mk (HCL.out.2.1)
  clear hf1 hf2 hf3 hf4 HMP
  go_loopg [9, 10, 11] PS.length (fun k v9 v10 v11 W => ∃ (i : Nat), v11 = .int .i64 (i : Int) ∧ i ≤ PS.length ∧ As (PS.length - i ≤ k) ∧ As (Below w6.heap.size w6 W) ∧ As (Kd.R (Kd.int .i64) 3 W w6.heap.size (fun k => some k ≠ v10.ownBlock) v9 ((PS.take i).flatMap (·.2))) ∧ As (Kd.R (Kd.int .i64) 3 W w6.heap.size (fun k => some k ≠ v9.ownBlock) v10 ((PS.take i).flatMap (fun x => pieceT sp x.2))))
  case atStart => exact ⟨0, rfl, Nat.zero_le _, ⟨by omega⟩, ⟨Below.refl _ _⟩, ⟨Kd.R_nil _ _ _ _ _⟩, ⟨Kd.R_nil _ _ _ _ _⟩⟩
  case round =>
   obtain ⟨i, rfl, hi, HK, HW, HO9, HO10⟩ := hrel
   rename World => W
   by_cases hlt : i < PS.length
   ·have hltI : (i : Int) < (PS.length : Int) := by omega
    obtain ⟨k1, rfl⟩ : ∃ k1, gk = k1 + 1 := ⟨gk - 1, by have := HK.out; omega⟩
    obtain ⟨⟨pa, p⟩, hx⟩ : ∃ x, PS[i]? = some x := ⟨_, List.getElem?_eq_getElem hlt⟩
    have hmem := List.mem_of_getElem? hx
    obtain ⟨g1, g2, g3, g4⟩ := HF1.out _ hmem
    have hCp := HCS.out _ hmem
    dsimp only at g1 g2 g3 g4 hCp
    have hpos := List.length_pos_iff.2 g1
    obtain ⟨ad, rfl, xr0⟩ := rd_kp HCL.out hx
    obtain ⟨pad, rfl, _⟩ := rd_at hCp (List.getElem?_eq_getElem hpos)
    dsimp only at xr0
    have xr := pw_cell_below HW.out xr0
    have HX0 := As.mk xr0
    have HX := As.mk hx
    have HCP := As.mk hCp
    have HADJ := As.mk g4
    have HTP := As.mk g3
    have HRP := As.mk (fun x hx => HP1.out x (g2 x hx))
    have hpe : ((p.length : Int) == 0) = false := by simp; omega
    have hpe2 : (0 : Int) < (p.length : Int) := by omega
    have HPL := As.mk (show p.length ≤ 300 by
     have h1 := congrArg List.length (take_next (·.2) hx)
     have h2 := take_len (·.2) PS (i + 1)
     rw [h1, HF3.out, List.length_append] at h2
     have := HN1.out
     dsimp only at h2
     omega)
    have hw11 : wrap64 ((i : Int) + 1) = (i : Int) + 1 := by have := HLN.out; exact w64 (by omega) (by omega)
    clear g1 g2 g3 g4 hCp hmem hx xr0
    go_wp2_with (go_at_call 18; refine (HIT.out _ v (HV6.out.below HW.out) p HPL.out HRP.out (some pad) p.length (Kd.C_below HCP.out HW.out) (Nat.le_refl _)).mono ?_; rintro e w7 ⟨sv, rfl, ho, hb⟩; rw [HTP.out] at ho; have HT7 := As.mk (apart_of HO9.out ho); obtain ⟨A7, c7, rfl⟩ := Kd.R_slice ho; have HW7 := As.mk (bt_ HW.out hb); have HO97 := As.mk (Kd.R_below HO9.out hb); have HO107 := As.mk (Kd.R_below HO10.out hb); clear ho hb xr HO9 HO10 HW; have xr := pw_cell_below HW7.out HX0.out)
    clear xr
    go_loopg [15] p.length (fun k v15 W' => ∃ (j : Nat), v15 = .int .i64 (j : Int) ∧ j ≤ p.length ∧ As (p.length - j ≤ k) ∧ As (Below w7.heap.size w7 W'))
    case atStart => exact ⟨0, rfl, Nat.zero_le _, ⟨by omega⟩, ⟨Below.refl _ _⟩⟩
    case round =>
     obtain ⟨j, rfl, hj, HK2, HWJ⟩ := hrel
     rename World => V
     have HW8 := As.mk (bt_ HW7.out HWJ.out)
     have xr := pw_cell_below HW8.out HX0.out
     by_cases hlj : j < p.length
     ·have hljI : (j : Int) < (p.length : Int) := by omega
      obtain ⟨k2, rfl⟩ : ∃ k2, gk = k2 + 1 := ⟨gk - 1, by have := HK2.out; omega⟩
      have HY := As.mk (List.getElem?_eq_getElem hlj)
      have hb := HRP.out _ (List.getElem_mem hlj)
      have hwj : wrap64 ((j : Int) + 1) = (j : Int) + 1 := w64 (by omega) (by have := HPL.out; omega)
      have HCL8 := As.mk (Kd.C_below HCL.out HW8.out)
      have HCP8 := As.mk (Kd.C_below HCP.out HW8.out)
      have HM8 := As.mk ((HW8.out.block _ (blk_lt HM6.out)).trans HM6.out)
      have HF8 := As.mk (HF6.out.below HW8.out)
      by_cases hneg : p[j] < 0
      ·have h1 : p.length = 1 := by
        rcases Nat.eq_zero_or_pos j with h0 | h0
        ·rcases Nat.lt_or_ge 1 p.length with h | h
         ·have := HADJ.out 0 (by omega)
          subst h0
          unfold cutQ at this
          simp [hneg] at this
         ·omega
        ·have := HADJ.out (j - 1) (by omega)
         unfold cutQ at this
         simp only [show j - 1 + 1 = j by omega] at this
         simp [hneg] at this
       have hd1 : decide (p[j] < 0) = true := decide_eq_true hneg
       have hd2 : ((p.length : Int) != 1) = false := by rw [h1]; rfl
       have hd3 : decide ((0 : Int) < (j : Int)) = false := decide_eq_false (by omega)
       have hd4 : decide (0 < j) = false := decide_eq_false (by omega)
       clear h1 hneg hb
       generalize p[j] = b at *
       go_wp2_with fail
       refine start_ (n := 42) (S := fun w' => Below V.heap.size V w') (ds := []) #[false, false, false, false, false, false, false, false, false, false, false, false, false, false, false, false, false, false, false, false, false, false, false, false, false, false, false, false, false, false, false, false, false, false, false, false, false, false, false, false, false, false] (by kernel_rfl) rfl rfl (below_drew1 (Below.refl _ _)) (fun hHeld => ?_)
       have HD9 := As.mk (below_drew1 (Below.refl V.heap.size V)); clear hHeld; generalize V.drew = w9 at HD9 ⊢; have hHeld := HD9.out
       refine pI 0 (some 81) (bs 42 1) ?_
       refine pI 1 (some 82) (bs 42 3) ?_
       refine pI 2 (some 83) (bs 42 7) ?_
       refine pI 4 (some 85) (bs 42 23) ?_
       refine tI 3 (some 84) (bs 42 31) rfl (by intro w' hS'; have s0 := hS'; have z := rd_ka (Kd.C_below HCL8.out hS') HX.out; go_simp; with_reducible rfl) hHeld ?_
       refine pI 5 (some 86) (bs 42 63) ?_
       refine tI 6 (some 87) (bs 42 127) rfl (by intro w' hS'; have s0 := hS'; have z := rd_ad (Kd.C_below HCP8.out hS') HY.out; go_simp; with_reducible rfl) hHeld ?_
       refine pI 7 (some 88) (bs 42 255) ?_
       refine pI 8 (some 89) (bs 42 511) ?_
       refine pI 9 (some 90) (bs 42 1023) ?_
       refine pI 10 (some 91) (bs 42 2047) ?_
       refine pI 11 (some 92) (bs 42 4095) ?_
       refine tI 12 (some 93) (bs 42 8191) rfl (by intro w' hS'; have s0 := hS'; have z := rd_ka (Kd.C_below HCL8.out hS') HX.out; go_simp; with_reducible rfl) hHeld ?_
       refine pI 13 (some 94) (bs 42 16383) ?_
       refine pI 14 (some 95) (bs 42 32767) ?_
       refine pI 15 (some 96) (bs 42 65535) ?_
       refine pI 16 (some 97) (bs 42 131071) ?_
       refine pI 17 (some 98) (bs 42 262143) ?_
       refine pI 18 (some 99) (bs 42 524287) ?_
       refine pI 19 (some 100) (bs 42 1048575) ?_
       refine pO 20 (some 101) (bs 42 2097151) ?_
       refine pO 21 (some 102) (bs 42 4194303) ?_
       refine pO 22 (some 103) (bs 42 8388607) ?_
       refine pO 23 (some 104) (bs 42 16777215) ?_
       refine pO 24 (some 105) (bs 42 33554431) ?_
       refine pO 25 (some 106) (bs 42 67108863) ?_
       refine pO 26 (some 107) (bs 42 134217727) ?_
       refine pO 27 (some 108) (bs 42 268435455) ?_
       refine pO 28 (some 109) (bs 42 536870911) ?_
       refine pO 29 (some 110) (bs 42 1073741823) ?_
       refine pO 30 (some 111) (bs 42 2147483647) ?_
       refine pO 31 (some 112) (bs 42 4294967295) ?_
       refine pO 32 (some 113) (bs 42 8589934591) ?_
       refine pO 33 (some 114) (bs 42 17179869183) ?_
       refine pO 34 (some 115) (bs 42 34359738367) ?_
       refine pO 35 (some 116) (bs 42 68719476735) ?_
       refine pO 36 (some 117) (bs 42 137438953471) ?_
       refine pO 37 (some 118) (bs 42 274877906943) ?_
       refine pO 38 (some 119) (bs 42 549755813887) ?_
       refine pO 39 (some 120) (bs 42 1099511627775) ?_
       refine pI 40 (some 121) (bs 42 2199023255551) ?_
       refine pI 41 (some 122) (bs 42 4398046511103) ?_
       refine done_ (by kernel_rfl) ?_
       go_wp2
       go_roundg k2
       case measure => omega
       case rel => exact ⟨j + 1, by go_num, by omega, ⟨by have := HK2.out; omega⟩, ⟨bt_ HWJ.out HD9.out⟩⟩
      ·have hd1 : decide (p[j] < 0) = false := decide_eq_false hneg
       have hbr := rightP_byte hb (by omega)
       by_cases hj0 : j = 0
       ·have hd3 : decide ((0 : Int) < (j : Int)) = false := decide_eq_false (by omega)
        have hd4 : decide (0 < j) = false := decide_eq_false (by omega)
        clear hneg hb hbr hj0
        generalize p[j] = b at *
        go_wp2_with fail
        refine start_ (n := 42) (S := fun w' => Below V.heap.size V w') (ds := []) #[false, false, false, false, false, false, false, false, false, false, false, false, false, false, false, false, false, false, false, false, false, false, false, false, false, false, false, false, false, false, false, false, false, false, false, false, false, false, false, false, false, false] (by kernel_rfl) rfl rfl (below_drew1 (Below.refl _ _)) (fun hHeld => ?_)
        have HD9 := As.mk (below_drew1 (Below.refl V.heap.size V)); clear hHeld; generalize V.drew = w9 at HD9 ⊢; have hHeld := HD9.out
        refine pI 0 (some 81) (bs 42 1) ?_
        refine pI 1 (some 82) (bs 42 3) ?_
        refine pI 2 (some 83) (bs 42 7) ?_
        refine pI 4 (some 85) (bs 42 23) ?_
        refine tI 3 (some 84) (bs 42 31) rfl (by intro w' hS'; have s0 := hS'; have z := rd_ka (Kd.C_below HCL8.out hS') HX.out; go_simp; with_reducible rfl) hHeld ?_
        refine pI 5 (some 86) (bs 42 63) ?_
        refine tI 6 (some 87) (bs 42 127) rfl (by intro w' hS'; have s0 := hS'; have z := rd_ad (Kd.C_below HCP8.out hS') HY.out; go_simp; with_reducible rfl) hHeld ?_
        refine pI 7 (some 88) (bs 42 255) ?_
        refine pI 8 (some 89) (bs 42 511) ?_
        refine pO 9 (some 90) (bs 42 1023) ?_
        refine pO 10 (some 91) (bs 42 2047) ?_
        refine pO 11 (some 92) (bs 42 4095) ?_
        refine pO 12 (some 93) (bs 42 8191) ?_
        refine pO 13 (some 94) (bs 42 16383) ?_
        refine pO 14 (some 95) (bs 42 32767) ?_
        refine pI 15 (some 96) (bs 42 65535) ?_
        refine pI 16 (some 97) (bs 42 131071) ?_
        refine pI 17 (some 98) (bs 42 262143) ?_
        refine pI 18 (some 99) (bs 42 524287) ?_
        refine pI 19 (some 100) (bs 42 1048575) ?_
        refine pO 20 (some 101) (bs 42 2097151) ?_
        refine pO 21 (some 102) (bs 42 4194303) ?_
        refine pO 22 (some 103) (bs 42 8388607) ?_
        refine pO 23 (some 104) (bs 42 16777215) ?_
        refine pO 24 (some 105) (bs 42 33554431) ?_
        refine pO 25 (some 106) (bs 42 67108863) ?_
        refine pO 26 (some 107) (bs 42 134217727) ?_
        refine pO 27 (some 108) (bs 42 268435455) ?_
        refine pO 28 (some 109) (bs 42 536870911) ?_
        refine pO 29 (some 110) (bs 42 1073741823) ?_
        refine pO 30 (some 111) (bs 42 2147483647) ?_
        refine pO 31 (some 112) (bs 42 4294967295) ?_
        refine pO 32 (some 113) (bs 42 8589934591) ?_
        refine pO 33 (some 114) (bs 42 17179869183) ?_
        refine pO 34 (some 115) (bs 42 34359738367) ?_
        refine pO 35 (some 116) (bs 42 68719476735) ?_
        refine pO 36 (some 117) (bs 42 137438953471) ?_
        refine pO 37 (some 118) (bs 42 274877906943) ?_
        refine pO 38 (some 119) (bs 42 549755813887) ?_
        refine pO 39 (some 120) (bs 42 1099511627775) ?_
        refine pI 40 (some 121) (bs 42 2199023255551) ?_
        refine pI 41 (some 122) (bs 42 4398046511103) ?_
        refine done_ (by kernel_rfl) ?_
        go_wp2
        go_roundg k2
        case measure => omega
        case rel => exact ⟨j + 1, by go_num, by omega, ⟨by have := HK2.out; omega⟩, ⟨bt_ HWJ.out HD9.out⟩⟩
       ·obtain ⟨j1, hj1⟩ : ∃ j1, j = j1 + 1 := ⟨j - 1, by omega⟩
        have hd3 : decide ((0 : Int) < (j : Int)) = true := decide_eq_true (by omega)
        have hd4 : decide (0 < j) = true := decide_eq_true (by omega)
        have hcq := HADJ.out j1 (by omega)
        have hwm : wrap64 ((j : Int) - 1) = (j1 : Int) := (w64 (by omega) (by have := HPL.out; omega)).trans (by omega)
        have hlj1 : j1 < p.length := by omega
        have hlj1I : (j1 : Int) < (p.length : Int) := by omega
        have HY1 := As.mk (List.getElem?_eq_getElem hlj1)
        have he : p[j1 + 1]'(by omega) = p[j] := by simp only [hj1]
        rw [he] at hcq
        have ha0 : 0 ≤ p[j1] := by
         unfold cutQ at hcq
         simp at hcq
         omega
        have har := rightP_byte (HRP.out _ (List.getElem_mem hlj1)) ha0
        generalize p[j1] = a at *
        generalize p[j] = b at *
        have haw : IntKind.u8.wrap a = a := by rw [IntKind.wrap_u8]; omega
        have hbw : IntKind.u8.wrap b = b := by rw [IntKind.wrap_u8]; omega
        have HCU := As.mk (fun (W' : World) (hf : RefAt W' v B0 D0 B3 B4 B5 e0 f0 e3 e4 e5 sp) => vcuts_any hf HOK.out (a := a) (b := b) ⟨ha0, har⟩ ⟨by omega, hbr⟩)
        rw [hcq] at HCU
        clear he hneg hb hbr hj0 hj1 har ha0 hcq
        go_wp2_with fail
        refine start_ (n := 42) (S := fun w' => Below V.heap.size V w') (ds := []) #[false, false, false, false, false, false, false, false, false, false, false, false, false, false, false, false, false, false, false, false, false, false, false, false, false, false, false, false, false, false, false, false, false, false, false, false, false, false, false, false, false, false] (by kernel_rfl) rfl rfl (below_drew1 (Below.refl _ _)) (fun hHeld => ?_)
        have HD9 := As.mk (below_drew1 (Below.refl V.heap.size V)); clear hHeld; generalize V.drew = w9 at HD9 ⊢; have hHeld := HD9.out
        refine pI 0 (some 81) (bs 42 1) ?_
        refine pI 1 (some 82) (bs 42 3) ?_
        refine pI 2 (some 83) (bs 42 7) ?_
        refine pI 4 (some 85) (bs 42 23) ?_
        refine tI 3 (some 84) (bs 42 31) rfl (by intro w' hS'; have s0 := hS'; have z := rd_ka (Kd.C_below HCL8.out hS') HX.out; go_simp; with_reducible rfl) hHeld ?_
        refine pI 5 (some 86) (bs 42 63) ?_
        refine tI 6 (some 87) (bs 42 127) rfl (by intro w' hS'; have s0 := hS'; have z := rd_ad (Kd.C_below HCP8.out hS') HY.out; go_simp; with_reducible rfl) hHeld ?_
        refine pI 7 (some 88) (bs 42 255) ?_
        refine pI 8 (some 89) (bs 42 511) ?_
        refine pO 9 (some 90) (bs 42 1023) ?_
        refine pO 10 (some 91) (bs 42 2047) ?_
        refine pO 11 (some 92) (bs 42 4095) ?_
        refine pO 12 (some 93) (bs 42 8191) ?_
        refine pO 13 (some 94) (bs 42 16383) ?_
        refine pO 14 (some 95) (bs 42 32767) ?_
        refine pI 15 (some 96) (bs 42 65535) ?_
        refine pI 16 (some 97) (bs 42 131071) ?_
        refine pI 17 (some 98) (bs 42 262143) ?_
        refine pI 18 (some 99) (bs 42 524287) ?_
        refine pI 19 (some 100) (bs 42 1048575) ?_
        refine pI 20 (some 101) (bs 42 2097151) ?_
        refine pI 22 (some 103) (bs 42 6291455) ?_
        refine pI 23 (some 104) (bs 42 14680063) ?_
        refine pI 24 (some 105) (bs 42 31457279) ?_
        refine pI 26 (some 107) (bs 42 98566143) ?_
        refine pI 27 (some 108) (bs 42 232783871) ?_
        refine pI 31 (some 112) (bs 42 2380267519) ?_
        refine pI 32 (some 113) (bs 42 6675234815) ?_
        refine pI 33 (some 114) (bs 42 15265169407) ?_
        refine pI 35 (some 116) (bs 42 49624907775) ?_
        refine tI 21 (some 102) (bs 42 49627004927) rfl (by intro w' hS'; have s0 := hS'; have hm := (hS'.block _ (blk_lt HM8.out)).trans HM8.out; have m2 := cell_of (i := 2) hm rfl; have m3 := cell_of (i := 3) hm rfl; go_simp; with_reducible rfl) hHeld ?_
        refine tI 25 (some 106) (bs 42 49660559359) rfl (by intro w' hS'; have s0 := hS'; have z := rd_ka (Kd.C_below HCL8.out hS') HX.out; go_simp; with_reducible rfl) hHeld ?_
        refine pI 28 (some 109) (bs 42 49928994815) ?_
        refine tI 29 (some 110) (bs 42 50465865727) rfl (by intro w' hS'; have s0 := hS'; have z := rd_ad (Kd.C_below HCP8.out hS') HY1.out; go_simp; with_reducible rfl) hHeld ?_
        refine pI 30 (some 111) (bs 42 51539607551) ?_
        refine tI 34 (some 115) (bs 42 68719476735) rfl (by intro w' hS'; have s0 := hS'; have z := rd_ka (Kd.C_below HCL8.out hS') HX.out; go_simp; with_reducible rfl) hHeld ?_
        refine pI 36 (some 117) (bs 42 137438953471) ?_
        refine tI 37 (some 118) (bs 42 274877906943) rfl (by intro w' hS'; have s0 := hS'; have z := rd_ad (Kd.C_below HCP8.out hS') HY.out; go_simp; with_reducible rfl) hHeld ?_
        refine pI 38 (some 119) (bs 42 549755813887) ?_
        refine one_ (i := 39) (N := some 120) (bs 42 1099511627775) rfl rfl (by kernel_rfl) (by decide) (fun K hK => ?_)
        refine goes_ Tryz.func19 (by kernel_rfl) rfl #[.agg #[.slice B4 sp.C.length e4, .slice B5 sp.J.length e5], .int .u8 a, .int .u8 b] (by rfl) rfl rfl (by simp [Act.eval]) ?_
        refine (HCU.out _ (HF8.out.below HD9.out)).mono ?_
        rintro e w10 ⟨rfl, hb⟩
        have HD10 := As.mk (bt_ HD9.out hb)
        clear hb
        refine ⟨_, rfl, ?_⟩
        refine hK.out _ _ HD10.out (fun hHeld => ?_)
        clear hK K
        refine nI ?_
        refine pI 40 (some 121) (bs 42 2199023255551) ?_
        refine pI 41 (some 122) (bs 42 4398046511103) ?_
        refine done_ (by kernel_rfl) ?_
        go_wp2
        go_roundg k2
        case measure => omega
        case rel => exact ⟨j + 1, by go_num, by omega, ⟨by have := HK2.out; omega⟩, ⟨bt_ HWJ.out HD10.out⟩⟩
     ·obtain rfl : j = p.length := by omega
      have HO98 := As.mk (Kd.R_below HO97.out HWJ.out)
      have HO108 := As.mk (Kd.R_below HO107.out HWJ.out)
      have HT8 := As.mk (Kd.R_below HT7.out HWJ.out)
      have HLX := As.mk (show (((PS.take i).flatMap (·.2)).length + p.length) * 8 ≤ 140737488355328 ∧ (((PS.take i).flatMap (fun x => pieceT sp x.2)).length + (pieceT sp p).length) * 8 ≤ 140737488355328 by
       have h1 := take_len (·.2) PS i
       have h2 := take_len (fun x : Option Addr × List Int => pieceT sp x.2) PS i
       have h3 := pieceT_len sp p
       have h4 := HT1.out
       have h5 := HN1.out
       have h6 := HPL.out
       rw [HF3.out] at h1
       rw [HF4.out] at h2
       omega)
      by_cases hi0 : i = 0
      ·have hd5 : ¬ (0 : Int) < (i : Int) := by omega
       have hd6 : ¬ 0 < i := by omega
       clear hi0
       go_wp2_with (first
        | ((with_reducible refine gate_builtin (b := .append) (xs := #[.tmp 123, .tmp 127]) rfl ?_); at_builtin; refine Kd.R_append_rows (Kd.int .i64) (Rr := (Kd.int .i64).K V) (w0 := V) w6.heap.size rfl (.tmp 123) (.tmp 127) 41 3 (.int .i64 0) 8 rfl Tryz.underlying41 info3 rfl (by decide) (by omega) _ _ p (some pad) p.length p.length _ (fun _ => False) (by rfl) (by rfl) HO98.out (Kd.C_below HCP.out HW8.out) (fun x cs hk => hk) (fun _ hk => hk.elim) (own_fresh HO108.out) (Below.refl _ _) HW8.out.size (by have := HLX.out; omega) ?_; intro z9 w9 ho hb hg hat; have HO99 := As.mk ho; have HO109 := As.mk (two_next HO108.out hg hat); have HT9 := As.mk (two_next HT8.out hg hat); have HW9 := As.mk (HW8.out.trans hb); clear xr; clear ho hb hg hat)
        | ((with_reducible refine gate_builtin (b := .append) (xs := #[.tmp 129, .tmp 130]) rfl ?_); at_builtin; refine Kd.R_append_rows (Kd.int .i64) (Rr := (Kd.int .i64).K w9) (w0 := w9) w6.heap.size rfl (.tmp 129) (.tmp 130) 41 3 (.int .i64 0) 8 rfl Tryz.underlying41 info3 rfl (by decide) (by omega) _ _ (pieceT sp p) A7 (pieceT sp p).length c7 _ (fun _ => False) (by rfl) (by rfl) HO109.out (Kd.R_reads' HT9.out).2.2 (fun x cs hk => hk) (fun _ hk => hk.elim) (own_fresh HO99.out) (Below.refl _ _) HW9.out.size (by have := HLX.out; omega) ?_; intro z10 w10 ho hb hg hat; have HO910 := As.mk (two_next HO99.out hg hat); have HO1010 := As.mk ho; have HW10 := As.mk (HW9.out.trans hb); clear ho hb hg hat))
       go_roundg k1
       case measure => omega
       case rel => exact ⟨i + 1, by go_num, by omega, ⟨by have := HK.out; omega⟩, HW10, ⟨by rw [take_next _ HX.out]; exact HO910.out⟩, ⟨by rw [take_next _ HX.out]; exact HO1010.out⟩⟩
      ·obtain ⟨i1, hi1⟩ : ∃ i1, i = i1 + 1 := ⟨i - 1, by omega⟩
       have hd5 : (0 : Int) < (i : Int) := by omega
       have hd6 : 0 < i := by omega
       have hlt1 : i1 < PS.length := by omega
       have hlt1I : (i1 : Int) < (PS.length : Int) := by omega
       have hwi : wrap64 ((i : Int) - 1) = (i1 : Int) := (w64 (by omega) (by have := HLN.out; omega)).trans (by omega)
       obtain ⟨⟨qa, q⟩, hq⟩ : ∃ x, PS[i1]? = some x := ⟨_, List.getElem?_eq_getElem hlt1⟩
       have hqm := List.mem_of_getElem? hq
       obtain ⟨g1, g2, _, _⟩ := HF1.out _ hqm
       have hCq := HCS.out _ hqm
       dsimp only at g1 g2 hCq
       have hqpos := List.length_pos_iff.2 g1
       have hbt := HF2.out i1 (by omega)
       have e1 : PS[i1] = (qa, q) := by have := List.getElem?_eq_getElem hlt1; rw [hq] at this; injection this with this; exact this.symm
       have e2 : PS[i1 + 1]'(by omega) = (some pad, p) := by
        have h1 := HX.out
        rw [hi1] at h1
        exact (List.getElem?_eq_some_iff.1 h1).2
       rw [e1, e2] at hbt
       dsimp only at hbt
       obtain ⟨qad, rfl, _⟩ := rd_at hCq (List.getElem?_eq_getElem hqpos)
       obtain ⟨m, hm, hqa⟩ := last_at hqpos
       have hpb := head_at (show 0 < p.length by omega)
       have hra := HP1.out _ (g2 _ (List.mem_of_getElem? hqa))
       have hrb := HRP.out _ (List.mem_of_getElem? hpb)
       have HQX := As.mk hq
       have HQC := As.mk hCq
       have HQA := As.mk hqa
       have HPB := As.mk hpb
       have hwm : wrap64 ((q.length : Int) - 1) = (m : Int) := (w64 (by omega) (by have := hCq.2.1; omega)).trans (by omega)
       have hmI : (m : Int) < (q.length : Int) := by omega
       clear hi0 hi1 e1 e2 hq hqm g1 g2 hCq hm hqa hpb
       generalize q.getLastD 0 = a at *
       generalize p.headD 0 = b at *
       go_wp2_with (first
        | ((with_reducible refine gate_builtin (b := .append) (xs := #[.tmp 123, .tmp 127]) rfl ?_); at_builtin; refine Kd.R_append_rows (Kd.int .i64) (Rr := (Kd.int .i64).K V) (w0 := V) w6.heap.size rfl (.tmp 123) (.tmp 127) 41 3 (.int .i64 0) 8 rfl Tryz.underlying41 info3 rfl (by decide) (by omega) _ _ p (some pad) p.length p.length _ (fun _ => False) (by rfl) (by rfl) HO98.out (Kd.C_below HCP.out HW8.out) (fun x cs hk => hk) (fun _ hk => hk.elim) (own_fresh HO108.out) (Below.refl _ _) HW8.out.size (by have := HLX.out; omega) ?_; intro z9 w9 ho hb hg hat; have HO99 := As.mk ho; have HO109 := As.mk (two_next HO108.out hg hat); have HT9 := As.mk (two_next HT8.out hg hat); have HW9 := As.mk (HW8.out.trans hb); clear xr; clear ho hb hg hat)
        | ((with_reducible refine gate_builtin (b := .append) (xs := #[.tmp 129, .tmp 130]) rfl ?_); at_builtin; refine Kd.R_append_rows (Kd.int .i64) (Rr := (Kd.int .i64).K w9) (w0 := w9) w6.heap.size rfl (.tmp 129) (.tmp 130) 41 3 (.int .i64 0) 8 rfl Tryz.underlying41 info3 rfl (by decide) (by omega) _ _ (pieceT sp p) A7 (pieceT sp p).length c7 _ (fun _ => False) (by rfl) (by rfl) HO109.out (Kd.R_reads' HT9.out).2.2 (fun x cs hk => hk) (fun _ hk => hk.elim) (own_fresh HO99.out) (Below.refl _ _) HW9.out.size (by have := HLX.out; omega) ?_; intro z10 w10 ho hb hg hat; have HO910 := As.mk (two_next HO99.out hg hat); have HO1010 := As.mk ho; have HW10 := As.mk (HW9.out.trans hb); clear ho hb hg hat))
       have HCLA := As.mk (Kd.C_below HCL.out HW10.out)
       refine start_ (n := 22) (S := fun w' => Below w10.heap.size w10 w') (ds := []) #[false, false, false, false, false, false, false, false, false, false, false, false, false, false, false, false, false, false, false, false, false, false] (by kernel_rfl) rfl rfl (below_drew1 (Below.refl _ _)) (fun hHeld => ?_)
       have HD11 := As.mk (below_drew1 (Below.refl w10.heap.size w10)); clear hHeld; generalize w10.drew = w11 at HD11 ⊢; have hHeld := HD11.out
       refine pI 0 (some 134) (bs 22 1) ?_
       refine pI 1 (some 135) (bs 22 3) ?_
       refine pI 2 (some 136) (bs 22 7) ?_
       refine pI 3 (some 137) (bs 22 15) ?_
       refine pI 5 (some 139) (bs 22 47) ?_
       refine pI 6 (some 140) (bs 22 111) ?_
       refine pI 7 (some 141) (bs 22 239) ?_
       refine pI 8 (some 142) (bs 22 495) ?_
       refine pI 14 (some 148) (bs 22 16879) ?_
       refine pI 15 (some 149) (bs 22 49647) ?_
       refine pI 16 (some 150) (bs 22 115183) ?_
       refine tI 4 (some 138) (bs 22 115199) rfl (by intro w' hS'; have s0 := hS'; have z := rd_ka (Kd.C_below HCLA.out hS') HQX.out; go_simp; with_reducible rfl) hHeld ?_
       refine tI 9 (some 143) (bs 22 115711) rfl (by intro w' hS'; have s0 := hS'; have z := rd_ka (Kd.C_below HCLA.out hS') HQX.out; go_simp; with_reducible rfl) hHeld ?_
       refine pI 10 (some 144) (bs 22 116735) ?_
       refine pI 11 (some 145) (bs 22 118783) ?_
       refine pI 12 (some 146) (bs 22 122879) ?_
       refine tI 13 (some 147) (bs 22 131071) rfl (by intro w' hS'; have s0 := hS'; have z := rd_ad (Kd.C_below HQC.out (HW10.out.trans (hS'.mono HW10.out.size))) HQA.out; go_simp; with_reducible rfl) hHeld ?_
       refine pI 20 (some 16) (bs 22 1179647) ?_
       refine tI 17 (some 151) (bs 22 1310719) rfl (by intro w' hS'; have s0 := hS'; have z := rd_ka (Kd.C_below HCLA.out hS') HX.out; go_simp; with_reducible rfl) hHeld ?_
       refine pI 18 (some 152) (bs 22 1572863) ?_
       refine tI 19 (some 153) (bs 22 2097151) rfl (by intro w' hS'; have s0 := hS'; have z := rd_ad (Kd.C_below HCP.out (HW10.out.trans (hS'.mono HW10.out.size))) HPB.out; have z2 : w'.cell? pad = some (.int .i64 b) := z; go_simp; with_reducible rfl) hHeld ?_
       refine pI 21 (some 17) (bs 22 4194303) ?_
       refine done_ (by kernel_rfl) ?_
       have HW11 := As.mk (HW10.out.trans (HD11.out.mono HW10.out.size))
       have HR9 := As.mk (Kd.R_below HO910.out HD11.out)
       have HR10 := As.mk (Kd.R_below HO1010.out HD11.out)
       have HM11 := As.mk ((HW11.out.block _ (blk_lt HM6.out)).trans HM6.out)
       have HF11 := As.mk (HF6.out.below HW11.out)
       clear HO910 HO1010 HW10 HD11 HO98 HO108 HT8 HLX
       by_cases ha : 0 ≤ a
       ·have hA : decide (0 ≤ a) = true := decide_eq_true ha
        by_cases hb : 0 ≤ b
        ·have hB : decide (0 ≤ b) = true := decide_eq_true hb
         have har := rightP_byte hra ha
         have hbr := rightP_byte hrb hb
         have haw : IntKind.u8.wrap a = a := by rw [IntKind.wrap_u8]; omega
         have hbw : IntKind.u8.wrap b = b := by rw [IntKind.wrap_u8]; omega
         have HCU := As.mk (vcuts_any HF11.out HOK.out (a := a) (b := b) ⟨ha, har⟩ ⟨hb, hbr⟩)
         rw [hbt] at HCU
         have m2 := cell_of (i := 2) HM11.out rfl
         have m3 := cell_of (i := 3) HM11.out rfl
         clear har hbr hbt hra hrb
         go_wp2_with (go_at_call 19; refine HCU.out.mono ?_; rintro e w12 ⟨rfl, hb⟩; have HW12 := As.mk (HW11.out.trans (hb.mono HW11.out.size)); have HR912 := As.mk (Kd.R_below HR9.out hb); have HR1012 := As.mk (Kd.R_below HR10.out hb); clear hb m2 m3)
         go_roundg k1
         case measure => omega
         case rel => exact ⟨i + 1, by go_num, by omega, ⟨by have := HK.out; omega⟩, HW12, ⟨by rw [take_next _ HX.out]; exact HR912.out⟩, ⟨by rw [take_next _ HX.out]; exact HR1012.out⟩⟩
        ·have hB : decide (0 ≤ b) = false := decide_eq_false hb
         go_wp2
         go_roundg k1
         case measure => omega
         case rel => exact ⟨i + 1, by go_num, by omega, ⟨by have := HK.out; omega⟩, HW11, ⟨by rw [take_next _ HX.out]; exact HR9.out⟩, ⟨by rw [take_next _ HX.out]; exact HR10.out⟩⟩
       ·have hA : decide (0 ≤ a) = false := decide_eq_false ha
        go_wp2
        go_roundg k1
        case measure => omega
        case rel => exact ⟨i + 1, by go_num, by omega, ⟨by have := HK.out; omega⟩, HW11, ⟨by rw [take_next _ HX.out]; exact HR9.out⟩, ⟨by rw [take_next _ HX.out]; exact HR10.out⟩⟩
   ·obtain rfl : i = PS.length := by omega
    have HA := As.mk (show Ro W _ P by have h := HO9.out; rw [List.take_length, HF3.out] at h; exact Ro.of (Kd.R_mono h (fun _ _ => trivial)))
    have HI := As.mk (show Ro W _ (tokL sp P) by have h := HO10.out; rw [List.take_length, HF4.out] at h; exact Ro.of (Kd.R_mono h (fun _ _ => trivial)))
    have HQ7 := As.mk (HQ6.out.below HW.out)
    clear HO9 HO10 HQ6
    obtain ⟨A9, c9, hz⟩ := HA.out.form
    subst hz
    obtain ⟨A10, c10, hz⟩ := HI.out.form
    subst hz
    go_wp2_with (first
     | (go_at_call 18; refine (HIT.out _ v (HV6.out.below HW.out) P HN1.out HP1.out Aq cq HQ7.out.rd.2.2 HQ7.out.rd.2.1).mono ?_; rintro e w7 ⟨sv, rfl, ho, hb⟩; have HE7 := As.mk (Ro.of ho); have HA7 := As.mk (HA.out.below hb); have HI7 := As.mk (HI.out.below hb); have HQ8 := As.mk (HQ7.out.below hb); have HB7 := As.mk (bt_ (bt_ HB6.out HW.out) hb); clear ho hb HA HI HQ7; obtain ⟨A7, c7, rfl⟩ := HE7.out.form)
     | (go_at_call 20; refine (ints_row HA7.out HQ8.out (by have := HN1.out; omega)).mono ?_; rintro e w8 ⟨rfl, hb⟩; have HE8 := As.mk (HE7.out.below hb); have HI8 := As.mk (HI7.out.below hb); have HB8 := As.mk (bt_ HB7.out hb); clear hb HA7 HQ8 HE7 HI7)
     | (go_at_call 20; refine (ints_row HI8.out HE8.out (by have := HN1.out; have := HT1.out; omega)).mono ?_; rintro e w9 ⟨rfl, hb⟩; have HB9 := As.mk (bt_ HB8.out hb); clear hb HE8 HI8))
    go_ret
    exact ⟨rfl, HB9.out⟩
end Go.Proofs.YtkffhgiiejbnaaaGreat.Rt
