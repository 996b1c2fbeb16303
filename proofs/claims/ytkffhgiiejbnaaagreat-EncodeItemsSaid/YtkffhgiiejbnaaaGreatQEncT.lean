import Derived.Test.YtkffhgiiejbnaaaGreatQEncG
import Derived.Test.YtkffhgiiejbnaaaGreatQ02
import Derived.Test.YtkffhgiiejbnaaaGreatQRefB
import Derived.Test.YtkffhgiiejbnaaaGreatQRefS
import Derived.Test.YtkffhgiiejbnaaaGreatQVocC
import Derived.Test.YtkffhgiiejbnaaaGreatQ01
import Derived.Test.YtkffhgiiejbnaaaGreatQOf
import Derived.Test.YtkffhgiiejbnaaaGreatQ03
import Derived.Test.YtkffhgiiejbnaaaGreatQRefK
import Derived.Test.YtkffhgiiejbnaaaGreatQRF21
set_option linter.unusedVariables false
set_option linter.unusedSimpArgs false
set_option linter.unnecessarySimpa false
namespace Go.Proofs.YtkffhgiiejbnaaaGreat.En
open Go.Shelf Go.RowKit Go.Proofs.YtkffhgiiejbnaaaGreatW.PrintWords Go.Proofs.YtkffhgiiejbnaaaGreatW.PrintLast Go.Proofs.YtkffhgiiejbnaaaGreatW.PrintMore Go.Proofs.YtkffhgiiejbnaaaGreat.Rf Go.Proofs.YtkffhgiiejbnaaaGreat.Aid Go.Proofs.YtkffhgiiejbnaaaGreat.Mp Go.Proofs.YtkffhgiiejbnaaaGreat.Hp Go.Proofs.YtkffhgiiejbnaaaGreat.Bn Go.Proofs.YtkffhgiiejbnaaaGreat.Tk Go.Proofs.YtkffhgiiejbnaaaGreat.Vc Go.Proofs.YtkffhgiiejbnaaaGreat.Rg Go.Proofs.YtkffhgiiejbnaaaGreat.Fn
set_option linter.unusedVariables false
set_option linter.unusedSimpArgs false
set_option maxHeartbeats 400000
theorem atP_none (s : ByteArray) : Mk.atP [] s = none := by
  unfold Mk.atP Mk.firstOf
  split <;> simp
theorem bytes_run (s : ByteArray) (hs : s.size ≤ 1000) : ∀ (d k i : Nat) (xs : List Int), i ≤ s.size → s.size - i = d → d < k → xs.length = i → mark_Bytes.l0 k s xs (s.size : Int) i = some (xs ++ Mk.parseF [] s d i)
  | 0, k, i, xs, h0, h1, h2, h3 => by
    obtain ⟨k, rfl⟩ : ∃ m, k = m + 1 := ⟨k - 1, by omega⟩
    simp only [mark_Bytes.l0]
    rw [if_neg (by omega)]
    simp [Mk.parseF]
  | d + 1, k, i, xs, h0, h1, h2, h3 => by
    obtain ⟨k, rfl⟩ : ∃ m, k = m + 1 := ⟨k - 1, by omega⟩
    have hlt : i < s.size := by omega
    have hw : wrap64 ((i : Int) + 1) = ((i + 1 : Nat) : Int) := (w64 (by omega) (by omega)).trans (by omega)
    have hb := bt_range s i
    have hwb : wrap64 (bt s (i : Int)) = bt s i := w64 (by omega) (by omega)
    simp only [mark_Bytes.l0]
    rw [if_pos (by omega), if_pos (by omega), if_pos (by omega), if_pos (by omega), hw, hwb, bytes_run s hs d k (i + 1) _ (by omega) (by omega) (by omega) (by simp; omega), Mk.parseF_byte hlt (atP_none _), List.append_assoc]
    rfl
theorem bytes_any (s : ByteArray) (w : World) (hs : s.size ≤ 1000) :
    Calls Tryz.prog 28 #[.string s] w fun e w' => ∃ v, e = .returned v ∧ Kd.R (Kd.int .i64) 3 w' w.heap.size (fun _ => True) v (Mk.parseP [] s) ∧ Below w.heap.size w w' :=
  mark_Bytes.calls (s.size + 1) s _ w (by
    unfold mark_Bytes.f Mk.parseP
    have := bytes_run s hs s.size (s.size + 1) 0 [] (by omega) (by omega) (by omega) rfl
    simpa using this)
set_option maxRecDepth 100000 in
theorem of_any {w : World} {v : Nat} {sp : Sp} (hv : VocAt w v sp) (hsp : SpOk sp) (s : ByteArray) (hs : s.size ≤ 1000) (g : Nat) (first : Array Value) (eg : ∀ args w, (callFunc g args).run Tryz.prog w = .ok (.enter g args) w) {items : List Int} (hri : ∀ x ∈ items, rightP sp x = true) (hl : items.length ≤ 1000)
    (hp : Calls Tryz.prog g (first ++ #[.string s]) w fun e w' => ∃ pv, e = .returned pv ∧ Kd.R (Kd.int .i64) 3 w' w.heap.size (fun _ => True) pv items ∧ Below w.heap.size w w') :
    Calls Tryz.prog 66 #[.pointer (some ⟨v, 0, none⟩), .string s, .func (.func g) first #[]] w fun e w' => ∃ sv, e = .returned (.tuple #[sv, .int .i64 0]) ∧ Kd.R (Kd.int .i64) 3 w' w.heap.size (fun _ => True) sv (tokL sp items) ∧ Below w.heap.size w w' := by
  have HP := As.mk hp
  have HV := As.mk hv
  have HS := As.mk hsp
  have HRI := As.mk hri
  have hg : ¬ (4000 : Int) < (s.size : Int) := by omega
  clear hp hv hsp hri
  go_enter Tryz.func66, Tryz.ntmps66
  go_wp2_with (first
    | (go_at_call 61; refine (tokens_any (HV.out.below HB1.out) HS.out (Kd.R_reads' HR1.out).2.2 HC1.out HRI.out (by omega)).mono ?_; rintro e w2 ⟨sv, rfl, hr2, hb2⟩; rw [tokP_eq] at hr2; have HR2 := As.mk (Kd.R_lower hr2 HB1.out.size); have HB2 := As.mk (HB1.out.trans (hb2.mono HB1.out.size)); clear hr2 hb2)
    | (go_at_fn g; refine HP.out.mono ?_; rintro e w1 ⟨pv, rfl, hr1, hb1⟩; obtain ⟨A1, c1, rfl, hc1, _⟩ := Kd.R_reads hr1; have HR1 := As.mk hr1; have HC1 := As.mk hc1; have HB1 := As.mk hb1; clear hr1 hb1 hc1))
  go_ret2
  exact ⟨_, rfl, HR2.out, HB2.out⟩
end Go.Proofs.YtkffhgiiejbnaaaGreat.En
namespace Go.Proofs.YtkffhgiiejbnaaaGreat.En
open Go.Shelf Go.RowKit Go.Proofs.YtkffhgiiejbnaaaGreatW.PrintWords Go.Proofs.YtkffhgiiejbnaaaGreatW.PrintLast Go.Proofs.YtkffhgiiejbnaaaGreatW.PrintMore Go.Proofs.YtkffhgiiejbnaaaGreat.Rf Go.Proofs.YtkffhgiiejbnaaaGreat.Aid Go.Proofs.YtkffhgiiejbnaaaGreat.Mp Go.Proofs.YtkffhgiiejbnaaaGreat.Hp Go.Proofs.YtkffhgiiejbnaaaGreat.Bn Go.Proofs.YtkffhgiiejbnaaaGreat.Tk Go.Proofs.YtkffhgiiejbnaaaGreat.Vc Go.Proofs.YtkffhgiiejbnaaaGreat.Rg Go.Proofs.YtkffhgiiejbnaaaGreat.Fn
set_option linter.unusedVariables false
set_option linter.unusedSimpArgs false
set_option maxHeartbeats 400000
theorem parseF_item {S : List Mk.Sp} {s : ByteArray} : ∀ (f i : Nat), ∀ x ∈ Mk.parseF S s f i, (0 ≤ x ∧ x < 256) ∨ (x < 0 ∧ -(S.length : Int) ≤ x)
  | 0, _, x, h => by simp [Mk.parseF] at h
  | f + 1, i, x, h => by
    by_cases hi : i < s.size
    · cases ha : Mk.atP S (s.extract i s.size) with
      | none =>
        rw [Mk.parseF_byte hi ha] at h
        rcases List.mem_cons.1 h with rfl | h
        · have := bt_range s i; left; omega
        · exact parseF_item f _ x h
      | some j =>
        rw [Mk.parseF_mark hi ha] at h
        rcases List.mem_cons.1 h with rfl | h
        · have := (Mk.atP_spec ha).1; right; omega
        · exact parseF_item f _ x h
    · rw [Mk.parseF_nil hi] at h; cases h
theorem parse_right (sp : Sp) (s : ByteArray) : ∀ x ∈ Mk.parseP sp.X s, rightP sp x = true := fun x hx => by
  unfold rightP
  rcases parseF_item _ _ x hx with h | h
  · simp [h]
  · simp [h]
theorem bytes_right (sp : Sp) (s : ByteArray) : ∀ x ∈ Mk.parseP [] s, rightP sp x = true := fun x hx => by
  unfold rightP
  rcases parseF_item _ _ x hx with h | h
  · simp [h]
  · have h2 := h.2; simp only [List.length_nil] at h2; omega
theorem parse_len (S : List Mk.Sp) (s : ByteArray) : (Mk.parseP S s).length ≤ s.size := Mk.parseF_length S s s.size 0
set_option maxRecDepth 100000 in
theorem text_any {w : World} {v : Nat} {sp : Sp} (hv : VocAt w v sp) (hsp : SpOk sp) (s : ByteArray) (hs : s.size ≤ 1000) :
    Calls Tryz.prog 23 #[.pointer (some ⟨v, 0, none⟩), .string s] w fun e w' => ∃ sv, e = .returned (.tuple #[sv, .int .i64 0]) ∧ Kd.R (Kd.int .i64) 3 w' w.heap.size (fun _ => True) sv (tokL sp (Mk.parseP sp.X s)) ∧ Below w.heap.size w w' := by
  have HV := As.mk hv
  have HO := As.mk (fun (pm : Nat) (hm : Mk.SetAt w pm sp.X) => of_any hv hsp s hs 68 #[.pointer (some ⟨pm, 0, none⟩)] (enters_of Tryz.func68 (by kernel_rfl) rfl) (parse_right sp s) (Nat.le_trans (parse_len _ _) hs) (Mk.parse_any hm s (by omega)))
  clear hv hsp
  go_enter Tryz.func23, Tryz.ntmps23
  go_wp2_with (first
    | (go_at_call 67; refine (marks_any HV.out).mono ?_; rintro e w1 ⟨pm, rfl, hm, rfl⟩)
    | (go_at_call 66; refine (HO.out pm hm).mono ?_; rintro e w1 ⟨sv, rfl, hr1, hb1⟩; have HR1 := As.mk hr1; have HB1 := As.mk hb1; clear hr1 hb1))
  go_ret2
  exact ⟨_, rfl, HR1.out, HB1.out⟩
set_option maxRecDepth 100000 in
theorem plain_any {w : World} {v : Nat} {sp : Sp} (hv : VocAt w v sp) (hsp : SpOk sp) (s : ByteArray) (hs : s.size ≤ 1000) :
    Calls Tryz.prog 24 #[.pointer (some ⟨v, 0, none⟩), .string s] w fun e w' => ∃ sv, e = .returned (.tuple #[sv, .int .i64 0]) ∧ Kd.R (Kd.int .i64) 3 w' w.heap.size (fun _ => True) sv (tokL sp (Mk.parseP [] s)) ∧ Below w.heap.size w w' := by
  have HO := As.mk (of_any hv hsp s hs 28 #[] (enters_of Tryz.func28 (by kernel_rfl) rfl) (bytes_right sp s) (Nat.le_trans (parse_len _ _) hs) (bytes_any s w hs))
  clear hv hsp
  go_enter Tryz.func24, Tryz.ntmps24
  go_wp2_with (go_at_call 66; refine HO.out.mono ?_; rintro e w1 ⟨sv, rfl, hr1, hb1⟩; have HR1 := As.mk hr1; have HB1 := As.mk hb1; clear hr1 hb1)
  go_ret2
  exact ⟨_, rfl, HR1.out, HB1.out⟩
set_option maxRecDepth 100000 in
theorem pieces_wrong {w : World} {v : Nat} {s : Sp} (hv : VocAt w v s) {A : Option Addr} {c : Nat} {xs : List Int} (hr : Kd.C (Kd.int .i64) w A xs.length xs) (hl : xs.length ≤ 200000000) {i : Nat} (hw : wrongF s xs = some i) :
    Calls Tryz.prog 17 #[.pointer (some ⟨v, 0, none⟩), .slice A xs.length c] w fun e w' => e = .returned (.slice none 0 0) ∧ Below w.heap.size w w' := by
  have HB := As.mk (below_alloc (Below.refl w.heap.size w) (.cells #[.pointer (some ⟨v, 0, none⟩)] 30))
  have c0 := box_of w (.pointer (some ⟨v, 0, none⟩)) 30
  have b0 := blk_lt (Go.MapKept.heap_alloc w (.cells #[.pointer (some ⟨v, 0, none⟩)] 30 (0, 0))).1
  have hi := conI A c xs 55 #[.pointer (some ⟨w.heap.size, 0, none⟩)] (fun n => !rightP s n) (enters_of Tryz.func55 (by kernel_rfl) rfl) (w.alloc (.cells #[.pointer (some ⟨v, 0, none⟩)] 30)) (Kd.C_below hr HB.out) (by omega)
    (fun W hW x hx => cloPieces (hv.below (HB.out.trans (hW.mono HB.out.size))) (pw_cell_below hW c0) x)
  have HI := As.mk hi
  unfold wrongF at hw
  rw [hw] at HI
  simp only [Option.isSome_some] at HI
  clear hv hr hl hi hw
  go_enter Tryz.func17, Tryz.ntmps17
  go_wp2_with (go_at_call 54; refine HI.out.mono ?_; rintro e w1 ⟨rfl, hb⟩; have HB1 := As.mk (HB.out.trans (hb.mono HB.out.size)); clear hb)
  go_ret
  exact ⟨rfl, HB1.out⟩
end Go.Proofs.YtkffhgiiejbnaaaGreat.En
namespace Go.Proofs.YtkffhgiiejbnaaaGreat.En
open Go.Shelf Go.RowKit Go.Proofs.YtkffhgiiejbnaaaGreatW.PrintWords Go.Proofs.YtkffhgiiejbnaaaGreatW.PrintLast Go.Proofs.YtkffhgiiejbnaaaGreatW.PrintMore Go.Proofs.YtkffhgiiejbnaaaGreat.Rf Go.Proofs.YtkffhgiiejbnaaaGreat.Aid Go.Proofs.YtkffhgiiejbnaaaGreat.Mp Go.Proofs.YtkffhgiiejbnaaaGreat.Hp Go.Proofs.YtkffhgiiejbnaaaGreat.Bn Go.Proofs.YtkffhgiiejbnaaaGreat.Tk Go.Proofs.YtkffhgiiejbnaaaGreat.Vc Go.Proofs.YtkffhgiiejbnaaaGreat.Rg Go.Proofs.YtkffhgiiejbnaaaGreat.Fn
set_option linter.unusedVariables false
set_option linter.unusedSimpArgs false
set_option maxHeartbeats 400000
def sE : Sp := ⟨[⟨97, 98⟩], [⟨300, ⟨#[60]⟩⟩], [], []⟩
theorem sE_ok : VOk sE := ⟨⟨by decide, by decide, by decide, by decide, (fun x h => by rw [List.mem_singleton.1 h]; decide), (fun x h => by rw [List.mem_singleton.1 h]; decide), (fun _ h => nomatch h), (fun _ h => nomatch h)⟩, by kernel_rfl, by kernel_rfl, (fun x h => by rw [List.mem_singleton.1 h]; exact of_decide_eq_true (by kernel_rfl))⟩
theorem tE : tokL sE (Mk.parseP sE.X ⟨#[97, 98, 60, 97]⟩) = [256, 300, 97] := by kernel_rfl
theorem pE : tokL sE (Mk.parseP [] ⟨#[97, 98, 60, 97]⟩) = [256, 60, 97] := by kernel_rfl
theorem dr_below {w w' : World} (h : Drawn w w') : Below w.heap.size w w' := by
  obtain ⟨n, rfl⟩ := h
  exact pw_below_drewN (Below.refl _ _) n
theorem ints_same {xs : List Int} {n : Nat} (hn : xs.length = n) (A B : Option Addr) (c d : Nat) (w : World) (hr0 : Kd.C (Kd.int .i64) w A xs.length xs) (hc0 : xs.length ≤ c) (hr1 : Kd.C (Kd.int .i64) w B xs.length xs) (hc1 : xs.length ≤ d) (hl : xs.length ≤ 9223372036854775807) :
    Calls Tryz.prog 20 #[.slice A n c, .slice B n d] w fun e w' => e = .returned (.bool true) ∧ Below w.heap.size w w' := by
  subst hn
  refine (ints_any xs xs A B c d w hr0 hc0 hr1 hc1 hl).mono ?_
  rintro e w' ⟨rfl, hb⟩
  exact ⟨by rw [decide_eq_true rfl], dr_below hb⟩
theorem awk_ints (x y z : Int) {w : World} {A : Option Addr} {c : Nat} (h : Kd.C (Kd.int .i64) w A [x, y, z].length [x, y, z]) (hc : [x, y, z].length ≤ c) :
    Calls Tryz.prog 20 #[.slice A 3 c, .slice (some ⟨w.heap.size, 0, none⟩) 3 3] (w.alloc (.cells #[.int .i64 x, .int .i64 y, .int .i64 z] 3)) fun e w' => e = .returned (.bool true) ∧ Below w.heap.size w w' := by
  have h2 := C_ints w 3 [x, y, z] (show 3 ≤ 9223372036854775807 by omega)
  have h1 := Kd.C_alloc h (.cells ([x, y, z].map (Value.int .i64)).toArray 3)
  have h3 := ints_same (n := 3) rfl A (some ⟨w.heap.size, 0, none⟩) c 3 _ h1 hc h2 (Nat.le_refl _) (show 3 ≤ 9223372036854775807 by omega)
  refine h3.mono ?_
  rintro e w' ⟨rfl, hb⟩
  exact ⟨rfl, bt_ (below_alloc (Below.refl _ _) _) hb⟩
theorem awk_worlds (w : World) : ((w.alloc (.cells #[.int .i64 97, .int .i64 98] 91 (0, 0))).alloc (.cells #[.int .i64 300, .string ⟨#[60]⟩] 93 (0, 0))).heap[w.heap.size]? = some (.cells #[.int .i64 97, .int .i64 98] 91 (0, 0)) ∧ ((w.alloc (.cells #[.int .i64 97, .int .i64 98] 91 (0, 0))).alloc (.cells #[.int .i64 300, .string ⟨#[60]⟩] 93 (0, 0))).heap[w.heap.size + 1]? = some (.cells #[.int .i64 300, .string ⟨#[60]⟩] 93 (0, 0)) := by
  generalize Obj.cells #[.int .i64 97, .int .i64 98] 91 (0, 0) = a
  generalize Obj.cells #[.int .i64 300, .string ⟨#[60]⟩] 93 (0, 0) = b
  have h : ((w.alloc a).alloc b).heap = (w.heap.push a).push b := rfl
  rw [h]
  refine ⟨?_, ?_⟩
  · rw [Array.getElem?_push, if_neg (by simp), Array.getElem?_push, if_pos rfl]
  · rw [Array.getElem?_push, if_pos (by simp)]
set_option maxRecDepth 100000 in
set_option maxHeartbeats 1000000 in
theorem awake_any (w : World) : Calls Tryz.prog 14 #[] w fun e w' => e = .returned (.bool true) ∧ Below w.heap.size w w' := by
  have HW := awk_worlds w
  have HB0 := As.mk (below_alloc (below_alloc (Below.refl w.heap.size w) (.cells #[.int .i64 97, .int .i64 98] 91)) (.cells #[.int .i64 300, .string ⟨#[60]⟩] 93))
  have hsz : w.heap.size ≤ ((w.alloc (.cells #[.int .i64 97, .int .i64 98] 91 (0, 0))).alloc (.cells #[.int .i64 300, .string ⟨#[60]⟩] 93 (0, 0))).heap.size := HB0.out.size
  have hat : SpAt ((w.alloc (.cells #[.int .i64 97, .int .i64 98] 91 (0, 0))).alloc (.cells #[.int .i64 300, .string ⟨#[60]⟩] 93 (0, 0))) (some ⟨w.heap.size, 0, none⟩) (some ⟨w.heap.size + 1, 0, none⟩) none none sE :=
    ⟨Rt.C_blk_mrg HW.1, Rt.C_blk_sp (y := ⟨300, ⟨#[60]⟩⟩) HW.2, ⟨rfl, by decide, fun h => absurd h (by decide)⟩, ⟨rfl, by decide, fun h => absurd h (by decide)⟩⟩
  have hn := new_ok 1 1 0 0 hat sE_ok
  rw [show spV (some ⟨w.heap.size, 0, none⟩) (some ⟨w.heap.size + 1, 0, none⟩) none none 1 1 0 0 sE = .agg #[.bool false, .slice (some ⟨w.heap.size, 0, none⟩) 1 1, .slice none 0 0, .slice (some ⟨w.heap.size + 1, 0, none⟩) 1 1, .slice none 0 0, .slice none 0 0] from rfl] at hn
  have HN := As.mk hn
  clear hn hat HW
  have hz : ∀ w, (zeroValue 95).run Tryz.prog w = .ok (.agg #[.bool false, .slice none 0 0, .slice none 0 0, .slice none 0 0, .slice none 0 0, .slice none 0 0]) w := fun w => by kernel_rfl
  go_enter Tryz.func14, Tryz.ntmps14
  go_wp2_with (first
    | (go_at_call 50; refine HN.out.mono ?_; rintro e w1 ⟨v, rfl, hv, hle, hb⟩; have HV1 := As.mk hv; have HB1 := As.mk (HB0.out.trans (hb.mono hsz)); clear hv hle hb HN)
    | (go_at_call 23; have ht := text_any HV1.out sE_ok.sp ⟨#[97, 98, 60, 97]⟩ (by decide); rw [tE] at ht; refine ht.mono ?_; clear ht; rintro e w2 ⟨sa, rfl, ha, hb⟩; have HA2 := As.mk ha; have HV2 := As.mk (HV1.out.below hb); have HB2 := As.mk (bt_ HB1.out hb); clear ha hb HV1)
    | (go_at_call 24; have ht := plain_any HV2.out sE_ok.sp ⟨#[97, 98, 60, 97]⟩ (by decide); rw [pE] at ht; refine ht.mono ?_; clear ht; rintro e w3 ⟨sb, rfl, ha, hb⟩; have HP3 := As.mk ha; have HA3 := As.mk (Kd.R_below HA2.out hb); have HB3 := As.mk (bt_ HB2.out hb); clear ha hb HV2; obtain ⟨Aa, ca, rfl, hca, hCa⟩ := Kd.R_reads HA3.out; obtain ⟨Ab, cb, rfl, hcb, hCb⟩ := Kd.R_reads HP3.out; have HCa := As.mk hCa; have HCb := As.mk hCb; clear hCa hCb HA2 HA3 HP3)
    | (go_at_call 20; refine (awk_ints 256 300 97 HCa.out hca).mono ?_; rintro e w4 ⟨rfl, hb⟩; have HB4 := As.mk (bt_ HB3.out hb); have HC4 := As.mk (Kd.C_below HCb.out hb); clear hb HCa)
    | (go_at_call 20; refine (awk_ints 256 60 97 HC4.out hcb).mono ?_; rintro e w5 ⟨rfl, hb⟩; have HB5 := As.mk (bt_ HB4.out hb); clear hb))
  go_ret
  exact ⟨rfl, HB5.out⟩
end Go.Proofs.YtkffhgiiejbnaaaGreat.En
namespace Go.Proofs.YtkffhgiiejbnaaaGreat.Dc
open Go.Shelf Go.RowKit Go.Proofs.YtkffhgiiejbnaaaGreatW.PrintWords Go.Proofs.YtkffhgiiejbnaaaGreatW.PrintLast Go.Proofs.YtkffhgiiejbnaaaGreatW.PrintMore Go.Proofs.YtkffhgiiejbnaaaGreat.Rf Go.Proofs.YtkffhgiiejbnaaaGreat.Aid Go.Proofs.YtkffhgiiejbnaaaGreat.Mp Go.Proofs.YtkffhgiiejbnaaaGreat.Hp Go.Proofs.YtkffhgiiejbnaaaGreat.Tk Go.Proofs.YtkffhgiiejbnaaaGreat.Vc
set_option linter.unusedVariables false
set_option linter.unusedSimpArgs false
set_option maxHeartbeats 400000
theorem itF_err (s : Sp) : ∀ (l : List Int) (n : Nat) (xs : List Int), (itF s l n xs).2.2 = 0 ∨ ((itF s l n xs).2.2 = 4 ∧ (itF s l n xs).1 = [])
  | [], n, xs => .inl rfl
  | id :: l, n, xs => by
    unfold itF
    split
    · exact itF_err s l _ _
    · exact .inr ⟨rfl, rfl⟩
theorem itF_len (s : Sp) (h : ∀ id, (itemsOf s id).length ≤ 64) : ∀ (l : List Int) (n : Nat) (xs : List Int), (itF s l n xs).1.length ≤ xs.length + 64 * l.length
  | [], n, xs => by simp [itF]
  | id :: l, n, xs => by
    unfold itF
    split
    · have h1 := itF_len s h l (n + 1) (xs ++ itemsOf s id)
      have h2 := h id
      rw [List.length_append] at h1
      rw [List.length_cons]
      omega
    · simp
def rendS (X : List Mk.Sp) (xs : List Int) : ByteArray := match Mk.rendF (Mk.hasP X) xs with | some l => ⟨l.toArray⟩ | none => ⟨#[]⟩
theorem rendV_eq (X : List Mk.Sp) (xs : List Int) : Mk.rendV (Mk.rendF (Mk.hasP X) xs) = .tuple #[.string (rendS X xs), .bool (Mk.rendF (Mk.hasP X) xs).isSome] := by
  unfold Mk.rendV rendS
  cases Mk.rendF (Mk.hasP X) xs <;> rfl
theorem used_below {w : World} {v : Nat} {w1 w2 : World} (h : Used w v w1) (hb : Below w1.heap.size w1 w2) : Used w v w2 := by
  obtain ⟨m, hm⟩ := h
  exact ⟨m, hm.trans (hb.mono (by rw [← set_size w ⟨v, 13, none⟩ (.int .i64 m)]; exact hm.size))⟩
def textF (s : Sp) (ids : List Int) : ByteArray := if (itF s ids 0 []).2.2 = 0 then rendS s.X (itF s ids 0 []).1 else ⟨#[]⟩
set_option maxRecDepth 100000 in
theorem text_any {w : World} {v : Nat} {s : Sp} (h : VocAt w v s) (A : Option Addr) (c : Nat) (ids : List Int) (hr : ∀ m : Int, Kd.C (Kd.int .i64) (w.setCell ⟨v, 13, none⟩ (.int .i64 m)) A ids.length ids) (hl : ids.length ≤ 4000) :
    Calls Tryz.prog 76 #[.pointer (some ⟨v, 0, none⟩), .slice A ids.length c] w fun e w' => e = .returned (.tuple #[.string (textF s ids), .int .i64 (itF s ids 0 []).2.1, .int .i64 (itF s ids 0 []).2.2]) ∧ VocAt w' v s ∧ Used w v w' := by
  have HI := As.mk (items_any h A c ids hr (by omega))
  have hlen := itF_len s (items_len h) ids 0 []
  have hle : ¬ (4000 : Int) < (ids.length : Int) := by omega
  have he := itF_err s ids 0 []
  clear h hr
  unfold textF
  generalize itF s ids 0 [] = R at *
  obtain ⟨xs, n, e0⟩ := R
  simp only at *
  have HL := As.mk (show xs.length ≤ 1000000000000 by simp at hlen; omega)
  clear hlen
  rcases he with rfl | ⟨rfl, rfl⟩
  · rw [if_pos rfl]
    generalize hSS : rendS s.X xs = S
    have HSS := As.mk hSS
    clear hSS
    go_enter Tryz.func76, Tryz.ntmps76
    go_wp2_with (first
      | (go_at_call 29; refine HI.out.mono ?_; rintro e w1 ⟨sv, rfl, ho, hv, hu⟩; obtain ⟨A2, c2, rfl⟩ := Kd.R_slice ho; have HC := As.mk (Kd.R_reads' ho).2.2; have HV := As.mk hv; have HU := As.mk hu; clear ho hv hu HI)
      | (go_at_call 67; refine (marks_any HV.out).mono ?_; rintro e w2 ⟨pm, rfl, hp, rfl⟩; have HP := As.mk hp; clear hp)
      | (go_at_call 105; have hren := Mk.render_any HP.out A2 c2 xs HC.out HL.out; rw [rendV_eq, HSS.out] at hren; generalize (Mk.rendF (Mk.hasP s.X) xs).isSome = bS at *; refine hren.mono ?_; clear hren; rintro e w3 ⟨rfl, hb⟩; have HB := As.mk hb; clear hb))
    go_ret3
    exact ⟨rfl, HV.out.below HB.out, used_below HU.out HB.out⟩
  · rw [if_neg (by decide)]
    go_enter Tryz.func76, Tryz.ntmps76
    go_wp2_with (go_at_call 29; refine HI.out.mono ?_; rintro e w1 ⟨sv, rfl, ho, hv, hu⟩; have HV := As.mk hv; have HU := As.mk hu; clear ho hv hu HI)
    go_ret3
    exact ⟨rfl, HV.out, HU.out⟩
end Go.Proofs.YtkffhgiiejbnaaaGreat.Dc
namespace Go.Proofs.YtkffhgiiejbnaaaGreat.Rt
open Go.RowKit Go.Proofs.YtkffhgiiejbnaaaGreatW.PrintWords Go.Proofs.YtkffhgiiejbnaaaGreatW.PrintLast Go.Proofs.YtkffhgiiejbnaaaGreatW.PrintMore Go.Proofs.YtkffhgiiejbnaaaGreat.Rf Go.Proofs.YtkffhgiiejbnaaaGreat.Aid Go.Proofs.YtkffhgiiejbnaaaGreat.Mp Go.Proofs.YtkffhgiiejbnaaaGreat.Hp Go.Proofs.YtkffhgiiejbnaaaGreat.Tk Go.Proofs.YtkffhgiiejbnaaaGreat.Vc Go.Proofs.YtkffhgiiejbnaaaGreat.Dc
set_option linter.unusedVariables false
set_option linter.unusedSimpArgs false
theorem great9 (X : List S93) (hX : X.length ≤ 9223372036854775807) : ∀ (d k i : Nat), X.length - i = d → d < k → i ≤ X.length → ∃ g, ligatureref09_Great.l0 k X (i : Int) = some g
  | 0, k, i, h0, h1, h2 => by
    obtain ⟨k, rfl⟩ : ∃ m, k = m + 1 := ⟨k - 1, by omega⟩
    simp only [ligatureref09_Great.l0]
    rw [if_neg (by omega)]
    exact ⟨_, rfl⟩
  | d + 1, k, i, h0, h1, h2 => by
    obtain ⟨k, rfl⟩ : ∃ m, k = m + 1 := ⟨k - 1, by omega⟩
    simp only [ligatureref09_Great.l0]
    rw [if_pos (by omega), if_pos (by omega)]
    split
    · exact ⟨_, rfl⟩
    · rw [w64 (by omega) (by omega), show ((i : Int) + 1) = ((i + 1 : Nat) : Int) from by omega]
      exact great9 X hX d k (i + 1) (by omega) (by omega) (by omega)
theorem great_some (L : List Int) (C : List S165) (J : List S108) (X : List S93) (hX : X.length ≤ 9223372036854775807) : ∃ g : Int, ligaturelaw12_Great.f (X.length + 1) L C J X = some g ∧ (g = 0 ∨ g = 1) := by
  obtain ⟨g, hg⟩ := great9 X hX X.length (X.length + 1) 0 (by omega) (by omega) (by omega)
  have hg : ligatureref09_Great.f (X.length + 1) X = some g := hg
  unfold ligaturelaw12_Great.f ligatureref10_Great.f
  rw [hg]
  by_cases h1 : (L.length : Int) > 60
  · rw [if_pos h1]; exact ⟨1, rfl, .inr rfl⟩
  rw [if_neg h1]
  by_cases h2 : (C.length : Int) > 20
  · rw [if_pos h2]; exact ⟨1, rfl, .inr rfl⟩
  rw [if_neg h2]
  by_cases h3 : (J.length : Int) > 20
  · rw [if_pos h3]; exact ⟨1, rfl, .inr rfl⟩
  rw [if_neg h3]
  cases g
  · exact ⟨0, rfl, .inl rfl⟩
  · exact ⟨1, rfl, .inr rfl⟩
theorem great_any {A0 A1 A2 A3 : Option Addr} {c0 c1 c2 c3 : Nat} {L : List Int} {C : List S165} {J : List S108} {X : List S93} {w : World} (h : CaseAt w A0 A1 A2 A3 c0 c1 c2 c3 L C J X) :
    ∃ g : Int, (g = 0 ∨ g = 1) ∧ ∀ W, Below w.heap.size w W → Calls Tryz.prog 13 #[caseV A0 A1 A2 A3 c0 c1 c2 c3 L C J X] W fun e w' => e = .returned (.int .i64 g) ∧ Below W.heap.size W w' := by
  obtain ⟨g, hg, h01⟩ := great_some L C J X h.hX.2.1
  refine ⟨g, h01, fun W hW => ?_⟩
  have h' := h.below hW
  exact ligaturelaw12_Great.calls _ A0 c0 L A1 c1 C A2 c2 J A3 c3 X g W h'.hL h'.h0 h'.hC h'.h1 h'.hJ h'.h2 h'.hX h'.h3 hg
end Go.Proofs.YtkffhgiiejbnaaaGreat.Rt
namespace Go.Proofs.YtkffhgiiejbnaaaGreat.Rt
open Go.RowKit Go.Proofs.YtkffhgiiejbnaaaGreatW.PrintWords Go.Proofs.YtkffhgiiejbnaaaGreatW.PrintLast Go.Proofs.YtkffhgiiejbnaaaGreatW.PrintMore Go.Proofs.YtkffhgiiejbnaaaGreat.Rf Go.Proofs.YtkffhgiiejbnaaaGreat.Aid Go.Proofs.YtkffhgiiejbnaaaGreat.Mp Go.Proofs.YtkffhgiiejbnaaaGreat.Hp Go.Proofs.YtkffhgiiejbnaaaGreat.Tk Go.Proofs.YtkffhgiiejbnaaaGreat.Vc Go.Proofs.YtkffhgiiejbnaaaGreat.Bn Go.Proofs.YtkffhgiiejbnaaaGreat.En
set_option linter.unusedVariables false
set_option linter.unusedSimpArgs false
set_option maxHeartbeats 400000
theorem venc_any {w : World} {v : Nat} {A0 B0 A3 A4 A5 : Option Addr} {c0 d0 c3 c4 c5 : Nat} {s : Vc.Sp} (h : RefAt w v A0 B0 A3 A4 A5 c0 d0 c3 c4 c5 s) (hok : VOk s) (A : Option Addr) (c : Nat) (items : List Int) (hr : Kd.C (Kd.int .i64) w A items.length items) (hc : items.length ≤ c) (hl : items.length ≤ 5000) (hri : ∀ x ∈ items, rightP s x = true) :
    Calls Tryz.prog 21 #[vV A0 B0 A3 A4 A5 c0 d0 c3 c4 c5 (tabOf s).1 s, .slice A items.length c] w fun e w' => ∃ v0 : Value, e = .returned v0 ∧ Kd.R (Kd.int .i64) 3 w' w.heap.size (fun _ => True) v0 (tokL s items) ∧ Below w.heap.size w w' := by
  have ht := h.tab
  obtain ⟨k, hk⟩ := enc_some hok hri hl
  exact ligatureref10_Vocab_Encode.calls k A0 c0 _ B0 d0 _ A4 c4 s.C A5 c5 s.J A3 c3 s.X A c items _ w ht.b ht.hb ht.m ht.hm (Kd.R_reads' h.C).2.2 (Kd.R_reads' h.C).2.1 (Kd.R_reads' h.J).2.2 (Kd.R_reads' h.J).2.1 (Kd.R_reads' h.X).2.2 (Kd.R_reads' h.X).2.1 hr hc hk
set_option maxRecDepth 100000 in
theorem items_long (v : Nat) (A : Option Addr) (n c : Nat) (w : World) (hn : 4000 < n) : Calls Tryz.prog 18 #[.pointer (some ⟨v, 0, none⟩), .slice A n c] w fun e w' => e = .returned (.tuple #[.slice none 0 0, .int .i64 0, .int .i64 3]) ∧ Below w.heap.size w w' := by
  have HB := As.mk (below_alloc (Below.refl w.heap.size w) (.cells #[.pointer (some ⟨v, 0, none⟩)] 30))
  have hg : (4000 : Int) < (n : Int) := by omega
  go_enter Tryz.func18, Tryz.ntmps18
  go_wp2
  go_ret3
  exact ⟨rfl, HB.out⟩
theorem right_yes {s : Vc.Sp} {x : Int} (h : rightP s x = true) : x ≤ 255 ∧ -(s.X.length : Int) ≤ x := by
  unfold rightP at h
  simp at h
  omega
theorem right_no {s : Vc.Sp} {x : Int} (h : rightP s x = false) : 255 < x ∨ (x ≤ 255 ∧ x < -(s.X.length : Int)) := by
  unfold rightP at h
  simp at h
  omega
set_option maxRecDepth 100000 in
set_option maxHeartbeats 2000000 in
theorem encodeItems_any {A0 A1 A2 A3 : Option Addr} {c0 c1 c2 c3 : Nat} {L : List Int} {C : List S165} {J : List S108} {X : List S93} {w : World} (h : CaseAt w A0 A1 A2 A3 c0 c1 c2 c3 L C J X) (A : Option Addr) (c : Nat) (ids : List Int) (hr : Kd.C (Kd.int .i64) w A ids.length ids) (hc : ids.length ≤ c) :
    Calls Tryz.prog 4 #[caseV A0 A1 A2 A3 c0 c1 c2 c3 L C J X, .slice A ids.length c] w fun e w' => e = .returned (.bool true) ∧ Below w.heap.size w w' := by
  obtain ⟨g, hg01, hG⟩ := great_any h
  have HG := As.mk hG
  have HC := As.mk h
  have HR := As.mk hr
  have HCC := As.mk hc
  clear hG h hr hc
  have HB0 := As.mk (below_alloc (Below.refl w.heap.size w) (.cells #[.slice A0 L.length c0, .slice A1 C.length c1, .slice A2 J.length c2, .slice A3 X.length c3] 27))
  have HK0 := As.mk (Go.MapKept.heap_alloc w (.cells #[.slice A0 L.length c0, .slice A1 C.length c1, .slice A2 J.length c2, .slice A3 X.length c3] 27)).1
  unfold caseV at HG ⊢
  have hearly : (g = 1 ∨ (g = 0 ∧ 200 < ids.length ∧ ids.length ≤ 4000)) ∨ (g = 0 ∧ (ids.length ≤ 200 ∨ 4000 < ids.length)) := by omega
  rcases hearly with he | ⟨rfl, hn⟩
  · have go : ∀ (he : (g = 1) ∨ (g = 0 ∧ (200 : Int) < (ids.length : Int) ∧ (ids.length : Int) ≤ 4000)), Calls Tryz.prog 4 #[.agg #[.slice A0 L.length c0, .slice A1 C.length c1, .slice A2 J.length c2, .slice A3 X.length c3], .slice A ids.length c] w fun e w' => e = .returned (.bool true) ∧ Below w.heap.size w w' := by
      clear he
      intro he
      rcases he with rfl | ⟨rfl, h1, h2⟩
      all_goals
        go_enter Tryz.func4, Tryz.ntmps4
        go_wp2_with (first
          | (go_at_call 13; refine (HG.out _ HB0.out).mono ?_; rintro e w1 ⟨rfl, hb⟩; have HB1 := As.mk (bt_ HB0.out hb); have HK1 := As.mk ((hb.block _ (blk_lt HK0.out)).trans HK0.out); clear hb)
          | (go_at_call 14; refine (En.awake_any _).mono ?_; rintro e w2 ⟨rfl, hb⟩; have HB2 := As.mk (bt_ HB1.out hb); clear hb))
        go_ret
        exact ⟨rfl, HB2.out⟩
    exact go (by omega)
  · have HO := As.mk (fun (W : World) (hb : Below w.heap.size w W) => of_any (HC.out.below hb))
    have HOK := As.mk (some_ok L C J X)
    unfold caseV at HO
    generalize someS L C J X = sp at HO HOK
    unfold vV at HO
    clear hg01
    by_cases hlong : 4000 < ids.length
    · have hl1 : (200 : Int) < (ids.length : Int) := by omega
      have hl2 : (4000 : Int) < (ids.length : Int) := by omega
      have HL := As.mk hlong
      clear hn hlong
      go_enter Tryz.func4, Tryz.ntmps4
      go_wp2_with (first
        | (go_at_call 13; refine (HG.out _ HB0.out).mono ?_; rintro e w1 ⟨rfl, hb⟩; have HB1 := As.mk (bt_ HB0.out hb); have HK1 := As.mk ((hb.block _ (blk_lt HK0.out)).trans HK0.out); clear hb)
        | (go_at_call 14; refine (En.awake_any _).mono ?_; rintro e w2 ⟨rfl, hb⟩; have HB2 := As.mk (bt_ HB1.out hb); have HK2 := (hb.block _ (blk_lt HK1.out)).trans HK1.out; have d0 := cell_of (i := 0) HK2 rfl; have d1 := cell_of (i := 1) HK2 rfl; have d2 := cell_of (i := 2) HK2 rfl; have d3 := cell_of (i := 3) HK2 rfl; clear hb HK2)
        | (go_at_call 15; refine (HO.out _ HB2.out).mono ?_; rintro e w3 ⟨v, B0, D0, B3, B4, B5, e0, f0, e3, e4, e5, rfl, hv, href, hle, hb⟩; have HB3 := As.mk (bt_ HB2.out hb); have hba := below_alloc (Below.refl w3.heap.size w3) (.cells #[.slice B0 (bL (tabOf sp).1).length e0, .slice D0 (mL (tabOf sp).1).length f0, .slice B4 sp.C.length e4, .slice B5 sp.J.length e5, .slice B3 sp.X.length e3] 38); have HB4 := As.mk (below_alloc HB3.out (.cells #[.slice B0 (bL (tabOf sp).1).length e0, .slice D0 (mL (tabOf sp).1).length f0, .slice B4 sp.C.length e4, .slice B5 sp.J.length e5, .slice B3 sp.X.length e3] 38)); have HV4 := As.mk (hv.below hba).at_; have HF4 := As.mk (href.below hba); have HM4 := As.mk (Go.MapKept.heap_alloc w3 (.cells #[.slice B0 (bL (tabOf sp).1).length e0, .slice D0 (mL (tabOf sp).1).length f0, .slice B4 sp.C.length e4, .slice B5 sp.J.length e5, .slice B3 sp.X.length e3] 38)).1; clear hv href hle hb hba d0 d1 d2 d3 HB3)
        | (go_at_call 18; refine (items_long v A ids.length c _ HL.out).mono ?_; rintro e w5 ⟨rfl, hb⟩; have HB5 := As.mk (bt_ HB4.out hb); clear hb HB4 HV4 HF4 HM4))
      go_ret
      exact ⟨rfl, HB5.out⟩
    · have hl1 : ¬ (200 : Int) < (ids.length : Int) := by omega
      have hl2 : ¬ (4000 : Int) < (ids.length : Int) := by omega
      have HL := As.mk (show ids.length ≤ 200 by omega)
      clear hn hlong
      cases hw : wrongF sp ids with
      | some j =>
        have hjl : j < ids.length := by
          unfold wrongF at hw
          exact (List.findIdx?_eq_some_iff_getElem.1 hw).1
        have HJ := As.mk (show rightP sp ids[j] = false ∧ ∀ (i : Nat) (hi : i < j), rightP sp (ids[i]'(by omega)) = true by
          unfold wrongF at hw
          obtain ⟨_, h2, h3⟩ := List.findIdx?_eq_some_iff_getElem.1 hw
          exact ⟨by simpa using h2, fun i hi => by simpa using h3 i hi⟩)
        have HE := As.mk (show itemsE sp ids = ([], (j : Int), 2) by unfold itemsE; rw [if_neg (by omega), hw])
        have HW := As.mk hw
        clear hw
        go_enter Tryz.func4, Tryz.ntmps4
        go_wp2_with (first
          | (go_at_call 13; refine (HG.out _ HB0.out).mono ?_; rintro e w1 ⟨rfl, hb⟩; have HB1 := As.mk (bt_ HB0.out hb); have HK1 := As.mk ((hb.block _ (blk_lt HK0.out)).trans HK0.out); clear hb)
          | (go_at_call 14; refine (En.awake_any _).mono ?_; rintro e w2 ⟨rfl, hb⟩; have HB2 := As.mk (bt_ HB1.out hb); have HK2 := (hb.block _ (blk_lt HK1.out)).trans HK1.out; have d0 := cell_of (i := 0) HK2 rfl; have d1 := cell_of (i := 1) HK2 rfl; have d2 := cell_of (i := 2) HK2 rfl; have d3 := cell_of (i := 3) HK2 rfl; clear hb HK2)
          | (go_at_call 15; refine (HO.out _ HB2.out).mono ?_; rintro e w3 ⟨v, B0, D0, B3, B4, B5, e0, f0, e3, e4, e5, rfl, hv, href, hle, hb⟩; have HB3 := As.mk (bt_ HB2.out hb); have hba := below_alloc (Below.refl w3.heap.size w3) (.cells #[.slice B0 (bL (tabOf sp).1).length e0, .slice D0 (mL (tabOf sp).1).length f0, .slice B4 sp.C.length e4, .slice B5 sp.J.length e5, .slice B3 sp.X.length e3] 38); have HB4 := As.mk (below_alloc HB3.out (.cells #[.slice B0 (bL (tabOf sp).1).length e0, .slice D0 (mL (tabOf sp).1).length f0, .slice B4 sp.C.length e4, .slice B5 sp.J.length e5, .slice B3 sp.X.length e3] 38)); have HV4 := As.mk (hv.below hba).at_; have HF4 := As.mk (href.below hba); have HM4 := As.mk (Go.MapKept.heap_alloc w3 (.cells #[.slice B0 (bL (tabOf sp).1).length e0, .slice D0 (mL (tabOf sp).1).length f0, .slice B4 sp.C.length e4, .slice B5 sp.J.length e5, .slice B3 sp.X.length e3] 38)).1; clear hv href hle hb hba d0 d1 d2 d3 HB3)
          | (go_at_call 18; have ht := items_any HV4.out HOK.out.sp (Kd.C_below HR.out HB4.out) HCC.out (by have := HL.out; omega); rw [HE.out] at ht; simp only at ht; refine ht.mono ?_; clear ht; rintro e w5 ⟨sv, rfl, ho, hb⟩; have HB5 := As.mk (bt_ HB4.out hb); have HV5 := As.mk (HV4.out.below hb); have HF5 := As.mk (HF4.out.below hb); have HM5 := As.mk ((hb.block _ (blk_lt HM4.out)).trans HM4.out); obtain ⟨A6, c6, rfl⟩ := Kd.R_slice ho; clear ho; clear hb HV4 HF4 HM4))
        go_loopg [10] ids.length (fun k v10 W => ∃ (i : Nat), v10 = .int .i64 (i : Int) ∧ i ≤ j ∧ As (ids.length - i ≤ k) ∧ As (Below w5.heap.size w5 W))
        case atStart => exact ⟨0, rfl, Nat.zero_le _, ⟨by omega⟩, ⟨Below.refl _ _⟩⟩
        case round =>
          obtain ⟨i, rfl, hij, HK, HW5⟩ := hrel
          have hlt : i < ids.length := by omega
          have hltI : (i : Int) < (ids.length : Int) := by omega
          obtain ⟨k1, rfl⟩ : ∃ k1, gk = k1 + 1 := ⟨gk - 1, by have := HK.out; omega⟩
          have hwn : wrap64 (-(sp.X.length : Int)) = -(sp.X.length : Int) := by have := HOK.out.sp.nX; exact w64 (by omega) (by omega)
          rename World => W
          have HBW := As.mk (bt_ HB5.out HW5.out)
          have HCW := As.mk (Kd.C_below HR.out HBW.out)
          have HMW := As.mk ((HW5.out.block _ (blk_lt HM5.out)).trans HM5.out)
          have HX := As.mk (List.getElem?_eq_getElem hlt)
          obtain ⟨ad, rfl, _⟩ := rd_at HCW.out HX.out
          by_cases he : i = j
          · have hx := HJ.out.1
            subst he
            rcases right_no hx with h1 | ⟨h1, h2⟩
            · have hd1 : decide ((255 : Int) < ids[i]) = true := decide_eq_true h1
              clear hx
              go_wp2_with fail
              refine start_ (n := 16) (S := fun w' => Below W.heap.size W w') (ds := []) #[false, false, false, false, false, false, false, false, false, false, false, false, false, false, false, false] (by kernel_rfl) rfl rfl (below_drew1 (Below.refl _ _)) (fun hHeld => ?_)
              have HD9 := As.mk (below_drew1 (Below.refl W.heap.size W)); clear hHeld; generalize W.drew = w9 at HD9 ⊢; have hHeld := HD9.out
              refine pI 0 (some 63) (bs 16 1) ?_
              refine pI 1 (some 64) (bs 16 3) ?_
              refine pI 2 (some 65) (bs 16 7) ?_
              refine tI 3 (some 66) (bs 16 15) rfl (by intro w' hS'; have s0 := hS'; have z := rd_ad (Kd.C_below HCW.out hS') HX.out; go_simp; with_reducible rfl) hHeld ?_
              refine pI 4 (some 67) (bs 16 31) ?_
              refine pI 5 (some 68) (bs 16 63) ?_
              refine pO 6 (some 69) (bs 16 127) ?_
              refine pO 7 (some 70) (bs 16 255) ?_
              refine pO 8 (some 71) (bs 16 511) ?_
              refine pO 9 (some 72) (bs 16 1023) ?_
              refine pO 10 (some 73) (bs 16 2047) ?_
              refine pO 11 (some 74) (bs 16 4095) ?_
              refine pO 12 (some 75) (bs 16 8191) ?_
              refine pO 13 (some 76) (bs 16 16383) ?_
              refine pO 14 (some 77) (bs 16 32767) ?_
              refine pI 15 (some 78) (bs 16 65535) ?_
              refine done_ (by kernel_rfl) ?_
              go_wp2_with (go_at_call 17; refine (pieces_wrong (HV5.out.below (bt_ HW5.out HD9.out)) (Kd.C_below HCW.out HD9.out) (by have := HL.out; omega) HW.out).mono ?_; rintro e w10 ⟨rfl, hb⟩; have HB10 := As.mk (bt_ (bt_ HBW.out HD9.out) hb); clear hb)
              go_ret
              exact ⟨rfl, HB10.out⟩
            · have hd1 : decide ((255 : Int) < ids[i]) = false := decide_eq_false (by omega)
              have hd2 : decide (ids[i] < -(sp.X.length : Int)) = true := decide_eq_true h2
              clear hx
              go_wp2_with fail
              refine start_ (n := 16) (S := fun w' => Below W.heap.size W w') (ds := []) #[false, false, false, false, false, false, false, false, false, false, false, false, false, false, false, false] (by kernel_rfl) rfl rfl (below_drew1 (Below.refl _ _)) (fun hHeld => ?_)
              have HD9 := As.mk (below_drew1 (Below.refl W.heap.size W)); clear hHeld; generalize W.drew = w9 at HD9 ⊢; have hHeld := HD9.out
              refine pI 0 (some 63) (bs 16 1) ?_
              refine pI 1 (some 64) (bs 16 3) ?_
              refine pI 2 (some 65) (bs 16 7) ?_
              refine tI 3 (some 66) (bs 16 15) rfl (by intro w' hS'; have s0 := hS'; have z := rd_ad (Kd.C_below HCW.out hS') HX.out; go_simp; with_reducible rfl) hHeld ?_
              refine pI 4 (some 67) (bs 16 31) ?_
              refine pI 5 (some 68) (bs 16 63) ?_
              refine pI 6 (some 69) (bs 16 127) ?_
              refine pI 7 (some 70) (bs 16 255) ?_
              refine pI 8 (some 71) (bs 16 511) ?_
              refine pI 10 (some 73) (bs 16 1535) ?_
              refine tI 9 (some 72) (bs 16 2047) rfl (by intro w' hS'; have s0 := hS'; have z := rd_ad (Kd.C_below HCW.out hS') HX.out; go_simp; with_reducible rfl) hHeld ?_
              refine tI 11 (some 74) (bs 16 4095) rfl (by intro w' hS'; have s0 := hS'; have hm := (hS'.block _ (blk_lt HMW.out)).trans HMW.out; have m4 := cell_of (i := 4) hm rfl; go_simp; with_reducible rfl) hHeld ?_
              refine pI 12 (some 75) (bs 16 8191) ?_
              refine pI 13 (some 76) (bs 16 16383) ?_
              refine pI 14 (some 77) (bs 16 32767) ?_
              refine pI 15 (some 78) (bs 16 65535) ?_
              refine done_ (by kernel_rfl) ?_
              go_wp2_with (go_at_call 17; refine (pieces_wrong (HV5.out.below (bt_ HW5.out HD9.out)) (Kd.C_below HCW.out HD9.out) (by have := HL.out; omega) HW.out).mono ?_; rintro e w10 ⟨rfl, hb⟩; have HB10 := As.mk (bt_ (bt_ HBW.out HD9.out) hb); clear hb)
              go_ret
              exact ⟨rfl, HB10.out⟩
          · have hx := right_yes (HJ.out.2 i (by omega))
            have hd1 : decide ((255 : Int) < ids[i]) = false := decide_eq_false (by omega)
            have hd2 : decide (ids[i] < -(sp.X.length : Int)) = false := decide_eq_false (by omega)
            have hw1 : wrap64 ((i : Int) + 1) = (i : Int) + 1 := w64 (by omega) (by omega)
            clear hx
            go_wp2_with fail
            refine start_ (n := 16) (S := fun w' => Below W.heap.size W w') (ds := []) #[false, false, false, false, false, false, false, false, false, false, false, false, false, false, false, false] (by kernel_rfl) rfl rfl (below_drew1 (Below.refl _ _)) (fun hHeld => ?_)
            have HD9 := As.mk (below_drew1 (Below.refl W.heap.size W)); clear hHeld; generalize W.drew = w9 at HD9 ⊢; have hHeld := HD9.out
            refine pI 0 (some 63) (bs 16 1) ?_
            refine pI 1 (some 64) (bs 16 3) ?_
            refine pI 2 (some 65) (bs 16 7) ?_
            refine tI 3 (some 66) (bs 16 15) rfl (by intro w' hS'; have s0 := hS'; have z := rd_ad (Kd.C_below HCW.out hS') HX.out; go_simp; with_reducible rfl) hHeld ?_
            refine pI 4 (some 67) (bs 16 31) ?_
            refine pI 5 (some 68) (bs 16 63) ?_
            refine pI 6 (some 69) (bs 16 127) ?_
            refine pI 7 (some 70) (bs 16 255) ?_
            refine pI 8 (some 71) (bs 16 511) ?_
            refine pI 10 (some 73) (bs 16 1535) ?_
            refine tI 9 (some 72) (bs 16 2047) rfl (by intro w' hS'; have s0 := hS'; have z := rd_ad (Kd.C_below HCW.out hS') HX.out; go_simp; with_reducible rfl) hHeld ?_
            refine tI 11 (some 74) (bs 16 4095) rfl (by intro w' hS'; have s0 := hS'; have hm := (hS'.block _ (blk_lt HMW.out)).trans HMW.out; have m4 := cell_of (i := 4) hm rfl; go_simp; with_reducible rfl) hHeld ?_
            refine pI 12 (some 75) (bs 16 8191) ?_
            refine pI 13 (some 76) (bs 16 16383) ?_
            refine pI 14 (some 77) (bs 16 32767) ?_
            refine pI 15 (some 78) (bs 16 65535) ?_
            refine done_ (by kernel_rfl) ?_
            go_wp2
            go_roundg k1
            case measure => omega
            case rel => exact ⟨i + 1, by go_num, by omega, ⟨by have := HK.out; omega⟩, ⟨bt_ HW5.out HD9.out⟩⟩
      | none =>
        have HRI := As.mk (wrongF_none hw)
        have HE := As.mk (show itemsE sp ids = (tokL sp ids, (ids.length : Int), 0) by unfold itemsE; rw [if_neg (by omega), hw])
        have HMA := As.mk (show madeE sp ids = tokL sp ids by unfold madeE; rw [hw])
        have HEN := As.mk (fun (W : World) {v : Nat} {A0 B0 A3 A4 A5 : Option Addr} {c0 d0 c3 c4 c5 : Nat} (hf : RefAt W v A0 B0 A3 A4 A5 c0 d0 c3 c4 c5 sp) (hb : Below w.heap.size w W) => venc_any hf HOK.out A c ids (Kd.C_below HR.out hb) HCC.out (by have := HL.out; omega) HRI.out)
        unfold vV at HEN
        have HTL := As.mk (tok_len sp ids)
        generalize tokL sp ids = T at *
        clear hw
        go_enter Tryz.func4, Tryz.ntmps4
        go_wp2_with (first
          | (go_at_call 13; refine (HG.out _ HB0.out).mono ?_; rintro e w1 ⟨rfl, hb⟩; have HB1 := As.mk (bt_ HB0.out hb); have HK1 := As.mk ((hb.block _ (blk_lt HK0.out)).trans HK0.out); clear hb)
          | (go_at_call 14; refine (En.awake_any _).mono ?_; rintro e w2 ⟨rfl, hb⟩; have HB2 := As.mk (bt_ HB1.out hb); have HK2 := (hb.block _ (blk_lt HK1.out)).trans HK1.out; have d0 := cell_of (i := 0) HK2 rfl; have d1 := cell_of (i := 1) HK2 rfl; have d2 := cell_of (i := 2) HK2 rfl; have d3 := cell_of (i := 3) HK2 rfl; clear hb HK2)
          | (go_at_call 15; refine (HO.out _ HB2.out).mono ?_; rintro e w3 ⟨v, B0, D0, B3, B4, B5, e0, f0, e3, e4, e5, rfl, hv, href, hle, hb⟩; have HB3 := As.mk (bt_ HB2.out hb); have hba := below_alloc (Below.refl w3.heap.size w3) (.cells #[.slice B0 (bL (tabOf sp).1).length e0, .slice D0 (mL (tabOf sp).1).length f0, .slice B4 sp.C.length e4, .slice B5 sp.J.length e5, .slice B3 sp.X.length e3] 38); have HB4 := As.mk (below_alloc HB3.out (.cells #[.slice B0 (bL (tabOf sp).1).length e0, .slice D0 (mL (tabOf sp).1).length f0, .slice B4 sp.C.length e4, .slice B5 sp.J.length e5, .slice B3 sp.X.length e3] 38)); have HV4 := As.mk (hv.below hba).at_; have HF4 := As.mk (href.below hba); have HM4 := As.mk (Go.MapKept.heap_alloc w3 (.cells #[.slice B0 (bL (tabOf sp).1).length e0, .slice D0 (mL (tabOf sp).1).length f0, .slice B4 sp.C.length e4, .slice B5 sp.J.length e5, .slice B3 sp.X.length e3] 38)).1; clear hv href hle hb hba d0 d1 d2 d3 HB3)
          | (go_at_call 18; have ht := items_any HV4.out HOK.out.sp (Kd.C_below HR.out HB4.out) HCC.out (by have := HL.out; omega); rw [HE.out] at ht; simp only at ht; refine ht.mono ?_; clear ht; rintro e w5 ⟨sv, rfl, ho, hb⟩; have HB5 := As.mk (bt_ HB4.out hb); have HV5 := As.mk (HV4.out.below hb); have HF5 := As.mk (HF4.out.below hb); have HM5 := As.mk ((hb.block _ (blk_lt HM4.out)).trans HM4.out); obtain ⟨A6, c6, rfl⟩ := Kd.R_slice ho; have HO5 := As.mk ho; clear ho; clear hb HV4 HF4 HM4))
        go_loopg [10] ids.length (fun k v10 W => ∃ (i : Nat), v10 = .int .i64 (i : Int) ∧ i ≤ ids.length ∧ As (ids.length - i ≤ k) ∧ As (Below w5.heap.size w5 W))
        case atStart => exact ⟨0, rfl, Nat.zero_le _, ⟨by omega⟩, ⟨Below.refl _ _⟩⟩
        case round =>
          obtain ⟨i, rfl, hij, HK, HW5⟩ := hrel
          rename World => W
          have HBW := As.mk (bt_ HB5.out HW5.out)
          have HCW := As.mk (Kd.C_below HR.out HBW.out)
          have HMW := As.mk ((HW5.out.block _ (blk_lt HM5.out)).trans HM5.out)
          by_cases hlt : i < ids.length
          · have hltI : (i : Int) < (ids.length : Int) := by omega
            obtain ⟨k1, rfl⟩ : ∃ k1, gk = k1 + 1 := ⟨gk - 1, by have := HK.out; omega⟩
            have hwn : wrap64 (-(sp.X.length : Int)) = -(sp.X.length : Int) := by have := HOK.out.sp.nX; exact w64 (by omega) (by omega)
            have HX := As.mk (List.getElem?_eq_getElem hlt)
            obtain ⟨ad, rfl, _⟩ := rd_at HCW.out HX.out
            have hx := right_yes (HRI.out _ (List.getElem_mem hlt))
            have hd1 : decide ((255 : Int) < ids[i]) = false := decide_eq_false (by omega)
            have hd2 : decide (ids[i] < -(sp.X.length : Int)) = false := decide_eq_false (by omega)
            have hw1 : wrap64 ((i : Int) + 1) = (i : Int) + 1 := w64 (by omega) (by omega)
            clear hx
            go_wp2_with fail
            refine start_ (n := 16) (S := fun w' => Below W.heap.size W w') (ds := []) #[false, false, false, false, false, false, false, false, false, false, false, false, false, false, false, false] (by kernel_rfl) rfl rfl (below_drew1 (Below.refl _ _)) (fun hHeld => ?_)
            have HD9 := As.mk (below_drew1 (Below.refl W.heap.size W)); clear hHeld; generalize W.drew = w9 at HD9 ⊢; have hHeld := HD9.out
            refine pI 0 (some 63) (bs 16 1) ?_
            refine pI 1 (some 64) (bs 16 3) ?_
            refine pI 2 (some 65) (bs 16 7) ?_
            refine tI 3 (some 66) (bs 16 15) rfl (by intro w' hS'; have s0 := hS'; have z := rd_ad (Kd.C_below HCW.out hS') HX.out; go_simp; with_reducible rfl) hHeld ?_
            refine pI 4 (some 67) (bs 16 31) ?_
            refine pI 5 (some 68) (bs 16 63) ?_
            refine pI 6 (some 69) (bs 16 127) ?_
            refine pI 7 (some 70) (bs 16 255) ?_
            refine pI 8 (some 71) (bs 16 511) ?_
            refine pI 10 (some 73) (bs 16 1535) ?_
            refine tI 9 (some 72) (bs 16 2047) rfl (by intro w' hS'; have s0 := hS'; have z := rd_ad (Kd.C_below HCW.out hS') HX.out; go_simp; with_reducible rfl) hHeld ?_
            refine tI 11 (some 74) (bs 16 4095) rfl (by intro w' hS'; have s0 := hS'; have hm := (hS'.block _ (blk_lt HMW.out)).trans HMW.out; have m4 := cell_of (i := 4) hm rfl; go_simp; with_reducible rfl) hHeld ?_
            refine pI 12 (some 75) (bs 16 8191) ?_
            refine pI 13 (some 76) (bs 16 16383) ?_
            refine pI 14 (some 77) (bs 16 32767) ?_
            refine pI 15 (some 78) (bs 16 65535) ?_
            refine done_ (by kernel_rfl) ?_
            go_wp2
            go_roundg k1
            case measure => omega
            case rel => exact ⟨i + 1, by go_num, by omega, ⟨by have := HK.out; omega⟩, ⟨bt_ HW5.out HD9.out⟩⟩
          · obtain rfl : i = ids.length := by omega
            have m0 := cell_of (i := 0) HMW.out rfl
            have m1 := cell_of (i := 1) HMW.out rfl
            have m2 := cell_of (i := 2) HMW.out rfl
            have m3 := cell_of (i := 3) HMW.out rfl
            have m4 := cell_of (i := 4) HMW.out rfl
            have HO6 := As.mk (Kd.R_below HO5.out HW5.out)
            go_wp2_with (first
              | (go_at_call 21; refine (HEN.out _ (HF5.out.below HW5.out) HBW.out).mono ?_; rintro e w6 ⟨v0, rfl, ho, hb⟩; obtain ⟨A7, c7, rfl, hc7, hC7⟩ := Kd.R_reads ho; have HC7 := As.mk hC7; have HB6 := As.mk (bt_ HBW.out hb); have HWV := As.mk (bt_ HW5.out hb); have HC6 := As.mk (Kd.R_reads' (Kd.R_below HO6.out hb)).2; clear ho hb hC7 HO6 HEN m0 m1 m2 m3 m4)
              | (go_at_call 20; refine (ints_same (xs := T) rfl A6 A7 c6 c7 _ HC6.out.2 HC6.out.1 HC7.out hc7 (by have := HTL.out; have := HL.out; omega)).mono ?_; rintro e w7 ⟨rfl, hb⟩; have HB7 := As.mk (bt_ HB6.out hb); have HWV7 := As.mk (bt_ HWV.out hb); have HC7b := As.mk (Kd.C_below HC6.out.2 hb); have hc6 := HC6.out.1; clear hb HC6 HC7)
              | (go_at_call 22; have ht := made_any (HV5.out.below HWV7.out) HOK.out.sp (Kd.C_below HR.out HB7.out) HCC.out (by have := HL.out; omega); rw [HMA.out] at ht; refine ht.mono ?_; clear ht; rintro e w8 ⟨sv, rfl, ho, hb⟩; obtain ⟨A8, c8, rfl, hc8, hC8⟩ := Kd.R_reads ho; have HC8 := As.mk hC8; have HB8 := As.mk (bt_ HB7.out hb); have HC9 := As.mk (Kd.C_below HC7b.out hb); clear ho hb hC8 HC7b)
              | (go_at_call 20; refine (ints_same (xs := T) rfl A8 A6 c8 c6 _ HC8.out hc8 HC9.out hc6 (by have := HTL.out; have := HL.out; omega)).mono ?_; rintro e w9 ⟨rfl, hb⟩; have HB9 := As.mk (bt_ HB8.out hb); clear hb HC8 HC9))
            go_ret
            exact ⟨rfl, HB9.out⟩
end Go.Proofs.YtkffhgiiejbnaaaGreat.Rt
