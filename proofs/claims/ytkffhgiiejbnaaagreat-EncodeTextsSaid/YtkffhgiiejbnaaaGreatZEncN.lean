import Derived.Test.YtkffhgiiejbnaaaGreatZEncG
import Derived.Test.YtkffhgiiejbnaaaGreatZ02
import Derived.Test.YtkffhgiiejbnaaaGreatZRefB
import Derived.Test.YtkffhgiiejbnaaaGreatZRefS
set_option maxRecDepth 100000
set_option maxHeartbeats 1000000
set_option linter.unusedVariables false
set_option linter.unusedSimpArgs false
set_option linter.unnecessarySimpa false
namespace Go.Proofs.YtkffhgiiejbnaaaGreat.En
open Go.Shelf Go.RowKit YtkffhgiiejbnaaaGreatW.PrintWords YtkffhgiiejbnaaaGreatW.PrintLast YtkffhgiiejbnaaaGreatW.PrintMore Rf Aid Mp Hp Bn Tk Vc Rg Go.Proofs.YtkffhgiiejbnaaaGreat.Fn
theorem atP_none (s : ByteArray) : Mk.atP [] s = none := by
 unfold Mk.atP Mk.firstOf
 split <;> simp
theorem bytes_run (s : ByteArray) (hs : s.size ≤ 1000) : ∀ (d k i : Nat) (xs : List Int), i ≤ s.size → s.size - i = d → d < k → xs.length = i → mark_Bytes.l0 k s xs (s.size : Int) i = some (xs ++ Mk.parseF [] s d i)
 | 0, k, i, xs, h0, h1, h2, h3 => by
  obtain ⟨k, rfl⟩ : ∃ m, k = m + 1 := ⟨k - 1, by omega⟩
  simp only [mark_Bytes.l0]
  rw [if_neg (by omega)]
  simp [Mk.parseF]
 | d + 1, k, i, xs, h0, h1, h2, h3 => by
  obtain ⟨k, rfl⟩ : ∃ m, k = m + 1 := ⟨k - 1, by omega⟩
  have hlt : i < s.size := by omega
  have hw : wrap64 ((i : Int) + 1) = ((i + 1 : Nat) : Int) := (w64 (by omega) (by omega)).trans (by omega)
  have hb := bt_range s i
  have hwb : wrap64 (bt s (i : Int)) = bt s i := w64 (by omega) (by omega)
  simp only [mark_Bytes.l0]
  rw [if_pos (by omega), if_pos (by omega), if_pos (by omega), if_pos (by omega), hw, hwb, bytes_run s hs d k (i + 1) _ (by omega) (by omega) (by omega) (by simp; omega), Mk.parseF_byte hlt (atP_none _), List.append_assoc]
  rfl
theorem bytes_any (s : ByteArray) (w : World) (hs : s.size ≤ 1000) :
  Calls Tryz.prog 28 #[.string s] w fun e w' => ∃ v, e = .returned v ∧ Kd.R (Kd.int .i64) 3 w' w.heap.size (fun _ => True) v (Mk.parseP [] s) ∧ Below w.heap.size w w' :=
 mark_Bytes.calls (s.size + 1) s _ w (by
  unfold mark_Bytes.f Mk.parseP
  have := bytes_run s hs s.size (s.size + 1) 0 [] (by omega) (by omega) (by omega) rfl
  simpa using this)
theorem of_long (v : Nat) (s : ByteArray) (f : Value) (w : World) (hs : 4000 < s.size) : Calls Tryz.prog 66 #[.pointer (some ⟨v, 0, none⟩), .string s, f] w fun e w' => e = .returned (.tuple #[.slice none 0 0, .int .i64 3]) ∧ w = w' := by
 have hg : (4000 : Int) < (s.size : Int) := by omega
 go_enter Tryz.func66, Tryz.ntmps66
 go_wp2
 go_ret2
 exact ⟨rfl, rfl⟩
theorem text_long {w : World} {v : Nat} {sp : Sp} (hv : VocAt w v sp) (s : ByteArray) (hs : 4000 < s.size) : Calls Tryz.prog 23 #[.pointer (some ⟨v, 0, none⟩), .string s] w fun e w' => e = .returned (.tuple #[.slice none 0 0, .int .i64 3]) ∧ w = w' := by
 go_enter Tryz.func23, Tryz.ntmps23
 go_wp2_with (first
  | (go_at_call 67; refine (marks_any hv).mono ?_; rintro e w1 ⟨pm, rfl, hm, rfl⟩)
  | (go_at_call 66; refine (of_long v s _ _ hs).mono ?_; rintro e w1 ⟨rfl, rfl⟩))
 go_ret2
 exact ⟨rfl, rfl⟩
theorem plain_long (w : World) (v : Nat) (s : ByteArray) (hs : 4000 < s.size) : Calls Tryz.prog 24 #[.pointer (some ⟨v, 0, none⟩), .string s] w fun e w' => e = .returned (.tuple #[.slice none 0 0, .int .i64 3]) ∧ w = w' := by
 go_enter Tryz.func24, Tryz.ntmps24
 go_wp2_with (go_at_call 66; refine (of_long v s _ _ hs).mono ?_; rintro e w1 ⟨rfl, rfl⟩)
 go_ret2
 exact ⟨rfl, rfl⟩
theorem of_any {w : World} {v : Nat} {sp : Sp} (hv : VocAt w v sp) (hsp : SpOk sp) (s : ByteArray) (hs : s.size ≤ 1000) (g : Nat) (first : Array Value) (eg : ∀ args w, (callFunc g args).run Tryz.prog w = .ok (.enter g args) w) {items : List Int} (hri : ∀ x ∈ items, rightP sp x = true) (hl : items.length ≤ 1000)
  (hp : Calls Tryz.prog g (first ++ #[.string s]) w fun e w' => ∃ pv, e = .returned pv ∧ Kd.R (Kd.int .i64) 3 w' w.heap.size (fun _ => True) pv items ∧ Below w.heap.size w w') :
  Calls Tryz.prog 66 #[.pointer (some ⟨v, 0, none⟩), .string s, .func (.func g) first #[]] w fun e w' => ∃ sv, e = .returned (.tuple #[sv, .int .i64 0]) ∧ Kd.R (Kd.int .i64) 3 w' w.heap.size (fun _ => True) sv (tokL sp items) ∧ Below w.heap.size w w' := by
 have HP := As.mk hp
 have HV := As.mk hv
 have HS := As.mk hsp
 have HRI := As.mk hri
 have hg : ¬ (4000 : Int) < (s.size : Int) := by omega
 clear hp hv hsp hri
 go_enter Tryz.func66, Tryz.ntmps66
 go_wp2_with (first
  | (go_at_call 61; refine (tokens_any (HV.out.below HB1.out) HS.out (Kd.R_reads' HR1.out).2.2 HC1.out HRI.out (by omega)).mono ?_; rintro e w2 ⟨sv, rfl, hr2, hb2⟩; rw [tokP_eq] at hr2; have HR2 := As.mk (Kd.R_lower hr2 HB1.out.size); have HB2 := As.mk (HB1.out.trans (hb2.mono HB1.out.size)); clear hr2 hb2)
  | (go_at_fn g; refine HP.out.mono ?_; rintro e w1 ⟨pv, rfl, hr1, hb1⟩; obtain ⟨A1, c1, rfl, hc1, _⟩ := Kd.R_reads hr1; have HR1 := As.mk hr1; have HC1 := As.mk hc1; have HB1 := As.mk hb1; clear hr1 hb1 hc1))
 go_ret2
 exact ⟨_, rfl, HR2.out, HB2.out⟩
end Go.Proofs.YtkffhgiiejbnaaaGreat.En
namespace Go.Proofs.YtkffhgiiejbnaaaGreat.En
open Go.Shelf Go.RowKit YtkffhgiiejbnaaaGreatW.PrintWords YtkffhgiiejbnaaaGreatW.PrintLast YtkffhgiiejbnaaaGreatW.PrintMore Rf Aid Mp Hp Bn Tk Vc Rg Go.Proofs.YtkffhgiiejbnaaaGreat.Fn
theorem parseF_item {S : List Mk.Sp} {s : ByteArray} : ∀ (f i : Nat), ∀ x ∈ Mk.parseF S s f i, (0 ≤ x ∧ x < 256) ∨ (x < 0 ∧ -(S.length : Int) ≤ x)
 | 0, _, x, h => by simp [Mk.parseF] at h
 | f + 1, i, x, h => by
  by_cases hi : i < s.size
  ·cases ha : Mk.atP S (s.extract i s.size) with
   | none =>
    rw [Mk.parseF_byte hi ha] at h
    rcases List.mem_cons.1 h with rfl | h
    ·have := bt_range s i; left; omega
    ·exact parseF_item f _ x h
   | some j =>
    rw [Mk.parseF_mark hi ha] at h
    rcases List.mem_cons.1 h with rfl | h
    ·have := (Mk.atP_spec ha).1; right; omega
    ·exact parseF_item f _ x h
  ·rw [Mk.parseF_nil hi] at h; cases h
theorem parse_right (sp : Sp) (s : ByteArray) : ∀ x ∈ Mk.parseP sp.X s, rightP sp x = true := fun x hx => by
 unfold rightP
 rcases parseF_item _ _ x hx with h | h
 ·simp [h]
 ·simp [h]
theorem bytes_right (sp : Sp) (s : ByteArray) : ∀ x ∈ Mk.parseP [] s, rightP sp x = true := fun x hx => by
 unfold rightP
 rcases parseF_item _ _ x hx with h | h
 ·simp [h]
 ·have h2 := h.2; simp only [List.length_nil] at h2; omega
theorem parse_len (S : List Mk.Sp) (s : ByteArray) : (Mk.parseP S s).length ≤ s.size := Mk.parseF_length S s s.size 0
theorem text_any {w : World} {v : Nat} {sp : Sp} (hv : VocAt w v sp) (hsp : SpOk sp) (s : ByteArray) (hs : s.size ≤ 1000) :
  Calls Tryz.prog 23 #[.pointer (some ⟨v, 0, none⟩), .string s] w fun e w' => ∃ sv, e = .returned (.tuple #[sv, .int .i64 0]) ∧ Kd.R (Kd.int .i64) 3 w' w.heap.size (fun _ => True) sv (tokL sp (Mk.parseP sp.X s)) ∧ Below w.heap.size w w' := by
 have HV := As.mk hv
 have HO := As.mk (fun (pm : Nat) (hm : Mk.SetAt w pm sp.X) => of_any hv hsp s hs 68 #[.pointer (some ⟨pm, 0, none⟩)] (enters_of Tryz.func68 (by kernel_rfl) rfl) (parse_right sp s) (Nat.le_trans (parse_len _ _) hs) (Mk.parse_any hm s (by omega)))
 clear hv hsp
 go_enter Tryz.func23, Tryz.ntmps23
 go_wp2_with (first
  | (go_at_call 67; refine (marks_any HV.out).mono ?_; rintro e w1 ⟨pm, rfl, hm, rfl⟩)
  | (go_at_call 66; refine (HO.out pm hm).mono ?_; rintro e w1 ⟨sv, rfl, hr1, hb1⟩; have HR1 := As.mk hr1; have HB1 := As.mk hb1; clear hr1 hb1))
 go_ret2
 exact ⟨_, rfl, HR1.out, HB1.out⟩
theorem plain_any {w : World} {v : Nat} {sp : Sp} (hv : VocAt w v sp) (hsp : SpOk sp) (s : ByteArray) (hs : s.size ≤ 1000) :
  Calls Tryz.prog 24 #[.pointer (some ⟨v, 0, none⟩), .string s] w fun e w' => ∃ sv, e = .returned (.tuple #[sv, .int .i64 0]) ∧ Kd.R (Kd.int .i64) 3 w' w.heap.size (fun _ => True) sv (tokL sp (Mk.parseP [] s)) ∧ Below w.heap.size w w' := by
 have HO := As.mk (of_any hv hsp s hs 28 #[] (enters_of Tryz.func28 (by kernel_rfl) rfl) (bytes_right sp s) (Nat.le_trans (parse_len _ _) hs) (bytes_any s w hs))
 clear hv hsp
 go_enter Tryz.func24, Tryz.ntmps24
 go_wp2_with (go_at_call 66; refine HO.out.mono ?_; rintro e w1 ⟨sv, rfl, hr1, hb1⟩; have HR1 := As.mk hr1; have HB1 := As.mk hb1; clear hr1 hb1)
 go_ret2
 exact ⟨_, rfl, HR1.out, HB1.out⟩
end Go.Proofs.YtkffhgiiejbnaaaGreat.En
namespace Go.Proofs.YtkffhgiiejbnaaaGreat.En
open Go.Shelf Go.RowKit YtkffhgiiejbnaaaGreatW.PrintWords YtkffhgiiejbnaaaGreatW.PrintLast YtkffhgiiejbnaaaGreatW.PrintMore Rf Aid Mp Hp Bn Tk Vc Rg Go.Proofs.YtkffhgiiejbnaaaGreat.Fn
def sE : Sp := ⟨[⟨97, 98⟩], [⟨300, ⟨#[60]⟩⟩], [], []⟩
theorem sE_ok : VOk sE := ⟨⟨by decide, by decide, by decide, by decide, (fun x h => by rw [List.mem_singleton.1 h]; decide), (fun x h => by rw [List.mem_singleton.1 h]; decide), (fun _ h => nomatch h), (fun _ h => nomatch h)⟩, by kernel_rfl, by kernel_rfl, (fun x h => by rw [List.mem_singleton.1 h]; exact of_decide_eq_true (by kernel_rfl))⟩
theorem tE : tokL sE (Mk.parseP sE.X ⟨#[97, 98, 60, 97]⟩) = [256, 300, 97] := by kernel_rfl
theorem pE : tokL sE (Mk.parseP [] ⟨#[97, 98, 60, 97]⟩) = [256, 60, 97] := by kernel_rfl
theorem dr_below {w w' : World} (h : Drawn w w') : Below w.heap.size w w' := by
 obtain ⟨n, rfl⟩ := h
 exact pw_below_drewN (Below.refl _ _) n
theorem ints_same {xs : List Int} {n : Nat} (hn : xs.length = n) (A B : Option Addr) (c d : Nat) (w : World) (hr0 : Kd.C (Kd.int .i64) w A xs.length xs) (hc0 : xs.length ≤ c) (hr1 : Kd.C (Kd.int .i64) w B xs.length xs) (hc1 : xs.length ≤ d) (hl : xs.length ≤ 9223372036854775807) :
  Calls Tryz.prog 20 #[.slice A n c, .slice B n d] w fun e w' => e = .returned (.bool true) ∧ Below w.heap.size w w' := by
 subst hn
 refine (ints_any xs xs A B c d w hr0 hc0 hr1 hc1 hl).mono ?_
 rintro e w' ⟨rfl, hb⟩
 exact ⟨by rw [decide_eq_true rfl], dr_below hb⟩
theorem awk_ints (x y z : Int) {w : World} {A : Option Addr} {c : Nat} (h : Kd.C (Kd.int .i64) w A [x, y, z].length [x, y, z]) (hc : [x, y, z].length ≤ c) :
  Calls Tryz.prog 20 #[.slice A 3 c, .slice (some ⟨w.heap.size, 0, none⟩) 3 3] (w.alloc (.cells #[.int .i64 x, .int .i64 y, .int .i64 z] 3)) fun e w' => e = .returned (.bool true) ∧ Below w.heap.size w w' := by
 have h2 := C_ints w 3 [x, y, z] (show 3 ≤ 9223372036854775807 by omega)
 have h1 := Kd.C_alloc h (.cells ([x, y, z].map (Value.int .i64)).toArray 3)
 have h3 := ints_same (n := 3) rfl A (some ⟨w.heap.size, 0, none⟩) c 3 _ h1 hc h2 (Nat.le_refl _) (show 3 ≤ 9223372036854775807 by omega)
 refine h3.mono ?_
 rintro e w' ⟨rfl, hb⟩
 exact ⟨rfl, bt_ (below_alloc (Below.refl _ _) _) hb⟩
theorem awk_worlds (w : World) : ((w.alloc (.cells #[.int .i64 97, .int .i64 98] 91 (0, 0))).alloc (.cells #[.int .i64 300, .string ⟨#[60]⟩] 93 (0, 0))).heap[w.heap.size]? = some (.cells #[.int .i64 97, .int .i64 98] 91 (0, 0)) ∧ ((w.alloc (.cells #[.int .i64 97, .int .i64 98] 91 (0, 0))).alloc (.cells #[.int .i64 300, .string ⟨#[60]⟩] 93 (0, 0))).heap[w.heap.size + 1]? = some (.cells #[.int .i64 300, .string ⟨#[60]⟩] 93 (0, 0)) := by
 generalize Obj.cells #[.int .i64 97, .int .i64 98] 91 (0, 0) = a
 generalize Obj.cells #[.int .i64 300, .string ⟨#[60]⟩] 93 (0, 0) = b
 have h : ((w.alloc a).alloc b).heap = (w.heap.push a).push b := rfl
 rw [h]
 refine ⟨?_, ?_⟩
 ·rw [Array.getElem?_push, if_neg (by simp), Array.getElem?_push, if_pos rfl]
 ·rw [Array.getElem?_push, if_pos (by simp)]
theorem awake_any (w : World) : Calls Tryz.prog 14 #[] w fun e w' => e = .returned (.bool true) ∧ Below w.heap.size w w' := by
 have HW := awk_worlds w
 have HB0 := As.mk (below_alloc (below_alloc (Below.refl w.heap.size w) (.cells #[.int .i64 97, .int .i64 98] 91)) (.cells #[.int .i64 300, .string ⟨#[60]⟩] 93))
 have hsz : w.heap.size ≤ ((w.alloc (.cells #[.int .i64 97, .int .i64 98] 91 (0, 0))).alloc (.cells #[.int .i64 300, .string ⟨#[60]⟩] 93 (0, 0))).heap.size := HB0.out.size
 have hat : SpAt ((w.alloc (.cells #[.int .i64 97, .int .i64 98] 91 (0, 0))).alloc (.cells #[.int .i64 300, .string ⟨#[60]⟩] 93 (0, 0))) (some ⟨w.heap.size, 0, none⟩) (some ⟨w.heap.size + 1, 0, none⟩) none none sE :=
  ⟨Rt.C_blk_mrg HW.1, Rt.C_blk_sp (y := ⟨300, ⟨#[60]⟩⟩) HW.2, ⟨rfl, by decide, fun h => absurd h (by decide)⟩, ⟨rfl, by decide, fun h => absurd h (by decide)⟩⟩
 have hn := new_ok 1 1 0 0 hat sE_ok
 rw [show spV (some ⟨w.heap.size, 0, none⟩) (some ⟨w.heap.size + 1, 0, none⟩) none none 1 1 0 0 sE = .agg #[.bool false, .slice (some ⟨w.heap.size, 0, none⟩) 1 1, .slice none 0 0, .slice (some ⟨w.heap.size + 1, 0, none⟩) 1 1, .slice none 0 0, .slice none 0 0] from rfl] at hn
 have HN := As.mk hn
 clear hn hat HW
 have hz : ∀ w, (zeroValue 95).run Tryz.prog w = .ok (.agg #[.bool false, .slice none 0 0, .slice none 0 0, .slice none 0 0, .slice none 0 0, .slice none 0 0]) w := fun w => by kernel_rfl
 go_enter Tryz.func14, Tryz.ntmps14
 go_wp2_with (first
  | (go_at_call 50; refine HN.out.mono ?_; rintro e w1 ⟨v, rfl, hv, hle, hb⟩; have HV1 := As.mk hv; have HB1 := As.mk (HB0.out.trans (hb.mono hsz)); clear hv hle hb HN)
  | (go_at_call 23; have ht := text_any HV1.out sE_ok.sp ⟨#[97, 98, 60, 97]⟩ (by decide); rw [tE] at ht; refine ht.mono ?_; clear ht; rintro e w2 ⟨sa, rfl, ha, hb⟩; have HA2 := As.mk ha; have HV2 := As.mk (HV1.out.below hb); have HB2 := As.mk (bt_ HB1.out hb); clear ha hb HV1)
  | (go_at_call 24; have ht := plain_any HV2.out sE_ok.sp ⟨#[97, 98, 60, 97]⟩ (by decide); rw [pE] at ht; refine ht.mono ?_; clear ht; rintro e w3 ⟨sb, rfl, ha, hb⟩; have HP3 := As.mk ha; have HA3 := As.mk (Kd.R_below HA2.out hb); have HB3 := As.mk (bt_ HB2.out hb); clear ha hb HV2; obtain ⟨Aa, ca, rfl, hca, hCa⟩ := Kd.R_reads HA3.out; obtain ⟨Ab, cb, rfl, hcb, hCb⟩ := Kd.R_reads HP3.out; have HCa := As.mk hCa; have HCb := As.mk hCb; clear hCa hCb HA2 HA3 HP3)
  | (go_at_call 20; refine (awk_ints 256 300 97 HCa.out hca).mono ?_; rintro e w4 ⟨rfl, hb⟩; have HB4 := As.mk (bt_ HB3.out hb); have HC4 := As.mk (Kd.C_below HCb.out hb); clear hb HCa)
  | (go_at_call 20; refine (awk_ints 256 60 97 HC4.out hcb).mono ?_; rintro e w5 ⟨rfl, hb⟩; have HB5 := As.mk (bt_ HB4.out hb); clear hb))
 go_ret
 exact ⟨rfl, HB5.out⟩
end Go.Proofs.YtkffhgiiejbnaaaGreat.En
