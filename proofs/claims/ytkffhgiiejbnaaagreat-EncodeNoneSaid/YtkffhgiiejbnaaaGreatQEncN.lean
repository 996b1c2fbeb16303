import Derived.BigQuiet
import Derived.Test.YtkffhgiiejbnaaaGreatQEncH
import Derived.Test.YtkffhgiiejbnaaaGreatQTokF
import Derived.Test.YtkffhgiiejbnaaaGreatQ01
import Derived.Test.YtkffhgiiejbnaaaGreatQSpecA
import Derived.Test.YtkffhgiiejbnaaaGreatQChk
import Derived.Test.YtkffhgiiejbnaaaGreatQVocA
set_option linter.unusedVariables false
set_option linter.unusedSimpArgs false
set_option linter.unnecessarySimpa false
namespace Go.Proofs.YtkffhgiiejbnaaaGreat.En
open Go.Shelf Go.RowKit Go.Proofs.YtkffhgiiejbnaaaGreatW.PrintWords Go.Proofs.YtkffhgiiejbnaaaGreatW.PrintLast Go.Proofs.YtkffhgiiejbnaaaGreatW.PrintMore Go.Proofs.YtkffhgiiejbnaaaGreat.Rf Go.Proofs.YtkffhgiiejbnaaaGreat.Aid Go.Proofs.YtkffhgiiejbnaaaGreat.Mp Go.Proofs.YtkffhgiiejbnaaaGreat.Hp Go.Proofs.YtkffhgiiejbnaaaGreat.Bn Go.Proofs.YtkffhgiiejbnaaaGreat.Tk Go.Proofs.YtkffhgiiejbnaaaGreat.Vc Go.Proofs.YtkffhgiiejbnaaaGreat.Rg Go.Proofs.YtkffhgiiejbnaaaGreat.Fn
set_option linter.unusedVariables false
set_option linter.unusedSimpArgs false
set_option maxHeartbeats 400000
theorem parseF_item {S : List Mk.Sp} {s : ByteArray} : ∀ (f i : Nat), ∀ x ∈ Mk.parseF S s f i, (0 ≤ x ∧ x < 256) ∨ (x < 0 ∧ -(S.length : Int) ≤ x)
  | 0, _, x, h => by simp [Mk.parseF] at h
  | f + 1, i, x, h => by
    by_cases hi : i < s.size
    · cases ha : Mk.atP S (s.extract i s.size) with
      | none =>
        rw [Mk.parseF_byte hi ha] at h
        rcases List.mem_cons.1 h with rfl | h
        · have := bt_range s i; left; omega
        · exact parseF_item f _ x h
      | some j =>
        rw [Mk.parseF_mark hi ha] at h
        rcases List.mem_cons.1 h with rfl | h
        · have := (Mk.atP_spec ha).1; right; omega
        · exact parseF_item f _ x h
    · rw [Mk.parseF_nil hi] at h; cases h
theorem parse_right (sp : Sp) (s : ByteArray) : ∀ x ∈ Mk.parseP sp.X s, rightP sp x = true := fun x hx => by
  unfold rightP
  rcases parseF_item _ _ x hx with h | h
  · simp [h]
  · simp [h]
theorem bytes_right (sp : Sp) (s : ByteArray) : ∀ x ∈ Mk.parseP [] s, rightP sp x = true := fun x hx => by
  unfold rightP
  rcases parseF_item _ _ x hx with h | h
  · simp [h]
  · have h2 := h.2; simp only [List.length_nil] at h2; omega
theorem parse_len (S : List Mk.Sp) (s : ByteArray) : (Mk.parseP S s).length ≤ s.size := Mk.parseF_length S s s.size 0
set_option maxRecDepth 100000 in
theorem text_any {w : World} {v : Nat} {sp : Sp} (hv : VocAt w v sp) (hsp : SpOk sp) (s : ByteArray) (hs : s.size ≤ 1000) :
    Calls Tryz.prog 23 #[.pointer (some ⟨v, 0, none⟩), .string s] w fun e w' => ∃ sv, e = .returned (.tuple #[sv, .int .i64 0]) ∧ Kd.R (Kd.int .i64) 3 w' w.heap.size (fun _ => True) sv (tokL sp (Mk.parseP sp.X s)) ∧ Below w.heap.size w w' := by
  have HV := As.mk hv
  have HO := As.mk (fun (pm : Nat) (hm : Mk.SetAt w pm sp.X) => of_any hv hsp s hs 68 #[.pointer (some ⟨pm, 0, none⟩)] (enters_of Tryz.func68 (by kernel_rfl) rfl) (parse_right sp s) (Nat.le_trans (parse_len _ _) hs) (Mk.parse_any hm s (by omega)))
  clear hv hsp
  go_enter Tryz.func23, Tryz.ntmps23
  go_wp2_with (first
    | (go_at_call 67; refine (marks_any HV.out).mono ?_; rintro e w1 ⟨pm, rfl, hm, rfl⟩)
    | (go_at_call 66; refine (HO.out pm hm).mono ?_; rintro e w1 ⟨sv, rfl, hr1, hb1⟩; have HR1 := As.mk hr1; have HB1 := As.mk hb1; clear hr1 hb1))
  go_ret2
  exact ⟨_, rfl, HR1.out, HB1.out⟩
set_option maxRecDepth 100000 in
theorem plain_any {w : World} {v : Nat} {sp : Sp} (hv : VocAt w v sp) (hsp : SpOk sp) (s : ByteArray) (hs : s.size ≤ 1000) :
    Calls Tryz.prog 24 #[.pointer (some ⟨v, 0, none⟩), .string s] w fun e w' => ∃ sv, e = .returned (.tuple #[sv, .int .i64 0]) ∧ Kd.R (Kd.int .i64) 3 w' w.heap.size (fun _ => True) sv (tokL sp (Mk.parseP [] s)) ∧ Below w.heap.size w w' := by
  have HO := As.mk (of_any hv hsp s hs 28 #[] (enters_of Tryz.func28 (by kernel_rfl) rfl) (bytes_right sp s) (Nat.le_trans (parse_len _ _) hs) (bytes_any s w hs))
  clear hv hsp
  go_enter Tryz.func24, Tryz.ntmps24
  go_wp2_with (go_at_call 66; refine HO.out.mono ?_; rintro e w1 ⟨sv, rfl, hr1, hb1⟩; have HR1 := As.mk hr1; have HB1 := As.mk hb1; clear hr1 hb1)
  go_ret2
  exact ⟨_, rfl, HR1.out, HB1.out⟩
set_option maxRecDepth 100000 in
theorem pieces_nil (A : Option Addr) (n c : Nat) (w : World) : Calls Tryz.prog 17 #[.pointer none, .slice A n c] w fun e w' => e = .returned (.slice none 0 0) ∧ Below w.heap.size w w' := by
  have HB := As.mk (below_alloc (Below.refl w.heap.size w) (.cells #[.pointer none] 30))
  go_enter Tryz.func17, Tryz.ntmps17
  go_wp2
  go_ret
  exact ⟨rfl, HB.out⟩
end Go.Proofs.YtkffhgiiejbnaaaGreat.En
namespace Go.Proofs.YtkffhgiiejbnaaaGreat.Rt
open Go.RowKit Go.Proofs.YtkffhgiiejbnaaaGreatW.PrintWords Go.Proofs.YtkffhgiiejbnaaaGreat.Rf Go.Proofs.YtkffhgiiejbnaaaGreat.Aid Go.Proofs.YtkffhgiiejbnaaaGreat.Mp Go.Proofs.YtkffhgiiejbnaaaGreat.Hp Go.Proofs.YtkffhgiiejbnaaaGreat.Tk
set_option linter.unusedVariables false
set_option linter.unusedSimpArgs false
def bL (E : List Ent) : List ByteArray := E.map (·.f0)
def mL (E : List Ent) : List S91 := (E.drop 256).map (fun x => ⟨x.f1, x.f2⟩)
theorem bL_len (E : List Ent) : (bL E).length = E.length := by simp [bL]
theorem has_some (E : List Ent) (M : List S91) (a : Int) : ligatureref04_Table_Has.f (bL E) M a = some (hasE E a) := by
  unfold ligatureref04_Table_Has.f hasE
  rw [bL_len]
  by_cases h : 0 ≤ a
  · rw [if_pos h]; congr 1; rw [decide_eq_decide]; omega
  · rw [if_neg h]; congr 1; symm; rw [decide_eq_false_iff_not]; omega
end Go.Proofs.YtkffhgiiejbnaaaGreat.Rt
namespace Go.Proofs.YtkffhgiiejbnaaaGreat.Rt
open Go.RowKit Go.Proofs.YtkffhgiiejbnaaaGreatW.PrintWords Go.Proofs.YtkffhgiiejbnaaaGreatW.PrintLast Go.Proofs.YtkffhgiiejbnaaaGreatW.PrintMore Go.Proofs.YtkffhgiiejbnaaaGreat.Rf Go.Proofs.YtkffhgiiejbnaaaGreat.Aid Go.Proofs.YtkffhgiiejbnaaaGreat.Mp Go.Proofs.YtkffhgiiejbnaaaGreat.Hp Go.Proofs.YtkffhgiiejbnaaaGreat.Tk
set_option linter.unusedVariables false
set_option linter.unusedSimpArgs false
set_option maxHeartbeats 400000
structure RAt (w : World) (A B : Option Addr) (c d : Nat) (E : List Ent) : Prop where
  b : Kd.C Kd.string w A (bL E).length (bL E)
  hb : (bL E).length ≤ c
  m : Kd.C k91 w B (mL E).length (mL E)
  hm : (mL E).length ≤ d
theorem RAt.below {w w' : World} {A B : Option Addr} {c d : Nat} {E : List Ent} (h : RAt w A B c d E) (hb : Below w.heap.size w w') : RAt w' A B c d E := ⟨Kd.C_below h.b hb, h.hb, Kd.C_below h.m hb, h.hm⟩
def rV (A B : Option Addr) (c d : Nat) (E : List Ent) : Value := .agg #[.slice A (bL E).length c, .slice B (mL E).length d]
theorem has_any {w : World} {A B : Option Addr} {c d : Nat} {E : List Ent} (h : RAt w A B c d E) (a : Int) : Calls Tryz.prog 106 #[rV A B c d E, .int .i64 a] w fun e w' => e = .returned (.bool (hasE E a)) ∧ Below w.heap.size w w' :=
  ligatureref04_Table_Has.calls A c (bL E) B d (mL E) a _ w h.b h.hb h.m h.hm (has_some E (mL E) a)
def W3 (w : World) (A B : Option Addr) (c d : Nat) (E : List Ent) (a b : Int) : World := ((w.alloc (.cells #[.slice A (bL E).length c, .slice B (mL E).length d] 34)).alloc (.cells #[.int .i64 a, .int .i64 b] 91)).alloc (.cells #[.slice none 0 0, .slice none 0 0] 34)
theorem cell_of {w : World} {p t i : Nat} {cs : Array Value} {v : Value} (h : w.heap[p]? = some (.cells cs t (0, 0))) (hv : cs[i]? = some v) : w.cell? ⟨p, i, none⟩ = some v := by simp only [World.cell?, h]; exact hv
end Go.Proofs.YtkffhgiiejbnaaaGreat.Rt
namespace Go.Proofs.YtkffhgiiejbnaaaGreat.Rt
open Go.RowKit Go.Proofs.YtkffhgiiejbnaaaGreatW.PrintWords Go.Proofs.YtkffhgiiejbnaaaGreatW.PrintLast Go.Proofs.YtkffhgiiejbnaaaGreatW.PrintMore Go.Proofs.YtkffhgiiejbnaaaGreat.Rf Go.Proofs.YtkffhgiiejbnaaaGreat.Aid Go.Proofs.YtkffhgiiejbnaaaGreat.Mp Go.Proofs.YtkffhgiiejbnaaaGreat.Hp Go.Proofs.YtkffhgiiejbnaaaGreat.Tk
set_option linter.unusedVariables false
set_option linter.unusedSimpArgs false
set_option maxHeartbeats 400000
structure ROwn (w : World) (base : Nat) (A B : Option Addr) (c d : Nat) (E : List Ent) : Prop where
  b : Kd.R Kd.string 9 w base (fun _ => True) (.slice A (bL E).length c) (bL E)
  m : Kd.R k91 91 w base (fun _ => True) (.slice B (mL E).length d) (mL E)
theorem ROwn.at_ {w : World} {base : Nat} {A B : Option Addr} {c d : Nat} {E : List Ent} (h : ROwn w base A B c d E) : RAt w A B c d E := ⟨(Kd.R_reads' h.b).2.2, (Kd.R_reads' h.b).2.1, (Kd.R_reads' h.m).2.2, (Kd.R_reads' h.m).2.1⟩
theorem ROwn.below {w w' : World} {base : Nat} {A B : Option Addr} {c d : Nat} {E : List Ent} (h : ROwn w base A B c d E) (hb : Below w.heap.size w w') : ROwn w' base A B c d E := ⟨Kd.R_below h.b hb, Kd.R_below h.m hb⟩
theorem ROwn.lower {w : World} {base base' : Nat} {A B : Option Addr} {c d : Nat} {E : List Ent} (h : ROwn w base A B c d E) (hb : base' ≤ base) : ROwn w base' A B c d E := ⟨Kd.R_lower h.b hb, Kd.R_lower h.m hb⟩
theorem ROwn.set {w : World} {base g : Nat} {cells : Array Value} {A B : Option Addr} {c d : Nat} {E : List Ent} (h : ROwn w base A B c d E) (hb : w.heap[g]? = some (.cells cells 34 (0, 0))) (j : Nat) (u : Value) : ROwn (w.setCell ⟨g, j, none⟩ u) base A B c d E := ⟨Kd.R_set h.b hb (by decide) j u, Kd.R_set h.m hb (by decide) j u⟩
theorem C_blk_mrg {W : World} {g : Nat} {a b : Int} (h : W.heap[g]? = some (.cells #[.int .i64 a, .int .i64 b] 91 (0, 0))) : Kd.C k91 W (some ⟨g, 0, none⟩) 1 [⟨a, b⟩] := by
  refine ⟨rfl, by decide, fun _ => ⟨_, rfl, fun j p hj => ?_⟩⟩
  cases j with
  | succ j => simp at hj
  | zero =>
    simp only [List.getElem?_cons_zero, Option.some.injEq] at hj
    subst hj
    refine ⟨[.int .i64 a, .int .i64 b], rfl, k91_mk _ ⟨a, b⟩, fun i u hu => ?_⟩
    have e1 : (⟨g, 0, none⟩ : Addr).add (0 * 2 + i) = ⟨g, i, none⟩ := by rw [add_plain]; simp
    show W.cell? ((⟨g, 0, none⟩ : Addr).add (0 * 2 + i)) = _
    rw [e1]
    exact cell_of h (by simpa using hu)
def more (E : List Ent) (a b : Int) : List Ent := if addC E a b = 0 then E ++ [newE E a b] else E
end Go.Proofs.YtkffhgiiejbnaaaGreat.Rt
namespace Go.Proofs.YtkffhgiiejbnaaaGreat.Rt
open Go.RowKit Go.Proofs.YtkffhgiiejbnaaaGreatW.PrintWords Go.Proofs.YtkffhgiiejbnaaaGreatW.PrintLast Go.Proofs.YtkffhgiiejbnaaaGreatW.PrintMore Go.Proofs.YtkffhgiiejbnaaaGreat.Rf Go.Proofs.YtkffhgiiejbnaaaGreat.Aid Go.Proofs.YtkffhgiiejbnaaaGreat.Mp Go.Proofs.YtkffhgiiejbnaaaGreat.Hp Go.Proofs.YtkffhgiiejbnaaaGreat.Tk Go.Proofs.YtkffhgiiejbnaaaGreat.Vc Go.Proofs.YtkffhgiiejbnaaaGreat.Bn
set_option linter.unusedVariables false
set_option linter.unusedSimpArgs false
set_option maxHeartbeats 400000
structure SmW (w0 w : World) (g : Nat) (A1 A3 A4 A5 : Option Addr) (c1 c3 c4 c5 : Nat) (s : Vc.Sp) : Prop where
  below : Below w0.heap.size w0 w
  blk : w.heap[g]? = some (.cells #[.bool false, .slice A1 s.M.length c1, .slice none 0 0, .slice A3 s.X.length c3, .slice A4 s.C.length c4, .slice A5 s.J.length c5] 95 (0, 0))
  res : w.heap[w0.heap.size]? = some (.cells #[.bool false, .slice none 0 0, .slice none 0 0, .slice none 0 0, .slice none 0 0, .slice none 0 0] 95 (0, 0))
  lg : w0.heap.size < g
  M : Kd.R k91 91 w w0.heap.size (fun _ => True) (.slice A1 s.M.length c1) s.M
  X : Kd.R k93 93 w w0.heap.size (fun _ => True) (.slice A3 s.X.length c3) s.X
  C : Kd.R k165 165 w w0.heap.size (fun _ => True) (.slice A4 s.C.length c4) s.C
  J : Kd.R k108 108 w w0.heap.size (fun _ => True) (.slice A5 s.J.length c5) s.J
theorem SmW.next {w0 w w' : World} {g : Nat} {A1 A3 A4 A5 : Option Addr} {c1 c3 c4 c5 : Nat} {s : Vc.Sp} (h : SmW w0 w g A1 A3 A4 A5 c1 c3 c4 c5 s) (hb : Below w.heap.size w w') : SmW w0 w' g A1 A3 A4 A5 c1 c3 c4 c5 s :=
  ⟨bt_ h.below hb, (hb.block _ (blk_lt h.blk)).trans h.blk, (hb.block _ (blk_lt h.res)).trans h.res, h.lg, Kd.R_below h.M hb, Kd.R_below h.X hb, Kd.R_below h.C hb, Kd.R_below h.J hb⟩
structure SpOwn (w : World) (base : Nat) (A1 A3 A4 A5 : Option Addr) (c1 c3 c4 c5 : Nat) (s : Vc.Sp) : Prop where
  M : Kd.R k91 91 w base (fun _ => True) (.slice A1 s.M.length c1) s.M
  X : Kd.R k93 93 w base (fun _ => True) (.slice A3 s.X.length c3) s.X
  C : Kd.R k165 165 w base (fun _ => True) (.slice A4 s.C.length c4) s.C
  J : Kd.R k108 108 w base (fun _ => True) (.slice A5 s.J.length c5) s.J
theorem SpOwn.at_ {w : World} {base : Nat} {A1 A3 A4 A5 : Option Addr} {c1 c3 c4 c5 : Nat} {s : Vc.Sp} (h : SpOwn w base A1 A3 A4 A5 c1 c3 c4 c5 s) : SpAt w A1 A3 A4 A5 s := ⟨(Kd.R_reads' h.M).2.2, (Kd.R_reads' h.X).2.2, (Kd.R_reads' h.C).2.2, (Kd.R_reads' h.J).2.2⟩
theorem SpOwn.below {w w' : World} {base : Nat} {A1 A3 A4 A5 : Option Addr} {c1 c3 c4 c5 : Nat} {s : Vc.Sp} (h : SpOwn w base A1 A3 A4 A5 c1 c3 c4 c5 s) (hb : Below w.heap.size w w') : SpOwn w' base A1 A3 A4 A5 c1 c3 c4 c5 s := ⟨Kd.R_below h.M hb, Kd.R_below h.X hb, Kd.R_below h.C hb, Kd.R_below h.J hb⟩
theorem C_blk_sp {W : World} {g : Nat} {y : S93} (h : W.heap[g]? = some (.cells #[.int .i64 y.f0, .string y.f1] 93 (0, 0))) : Kd.C k93 W (some ⟨g, 0, none⟩) 1 [y] := by
  refine ⟨rfl, by decide, fun _ => ⟨_, rfl, fun j p hj => ?_⟩⟩
  cases j with
  | succ j => simp at hj
  | zero =>
    simp only [List.getElem?_cons_zero, Option.some.injEq] at hj
    subst hj
    refine ⟨[.int .i64 y.f0, .string y.f1], rfl, k93_mk _ y, fun i u hu => ?_⟩
    have e1 : (⟨g, 0, none⟩ : Addr).add (0 * 2 + i) = ⟨g, i, none⟩ := by rw [add_plain]; simp
    show W.cell? ((⟨g, 0, none⟩ : Addr).add (0 * 2 + i)) = _
    rw [e1]
    exact cell_of h (by simpa using hu)
theorem info_sp : (Tryz.prog.info? 93).map (fun i => (i.zero, i.size, i.bytes)) = some (some (.agg #[.int .i64 0, .string ⟨#[]⟩]), 2, 24) := by kernel_rfl
end Go.Proofs.YtkffhgiiejbnaaaGreat.Rt
namespace Go.Proofs.YtkffhgiiejbnaaaGreat.En
open Go.Shelf Go.RowKit Go.Proofs.YtkffhgiiejbnaaaGreatW.PrintWords Go.Proofs.YtkffhgiiejbnaaaGreatW.PrintLast Go.Proofs.YtkffhgiiejbnaaaGreatW.PrintMore Go.Proofs.YtkffhgiiejbnaaaGreat.Rf Go.Proofs.YtkffhgiiejbnaaaGreat.Aid Go.Proofs.YtkffhgiiejbnaaaGreat.Mp Go.Proofs.YtkffhgiiejbnaaaGreat.Hp Go.Proofs.YtkffhgiiejbnaaaGreat.Bn Go.Proofs.YtkffhgiiejbnaaaGreat.Tk Go.Proofs.YtkffhgiiejbnaaaGreat.Vc Go.Proofs.YtkffhgiiejbnaaaGreat.Rg Go.Proofs.YtkffhgiiejbnaaaGreat.Fn
set_option linter.unusedVariables false
set_option linter.unusedSimpArgs false
set_option maxHeartbeats 400000
def sE : Sp := ⟨[⟨97, 98⟩], [⟨300, ⟨#[60]⟩⟩], [], []⟩
theorem sE_ok : VOk sE := ⟨⟨by decide, by decide, by decide, by decide, (fun x h => by rw [List.mem_singleton.1 h]; decide), (fun x h => by rw [List.mem_singleton.1 h]; decide), (fun _ h => nomatch h), (fun _ h => nomatch h)⟩, by kernel_rfl, by kernel_rfl, (fun x h => by rw [List.mem_singleton.1 h]; exact of_decide_eq_true (by kernel_rfl))⟩
theorem tE : tokL sE (Mk.parseP sE.X ⟨#[97, 98, 60, 97]⟩) = [256, 300, 97] := by kernel_rfl
theorem pE : tokL sE (Mk.parseP [] ⟨#[97, 98, 60, 97]⟩) = [256, 60, 97] := by kernel_rfl
theorem dr_below {w w' : World} (h : Drawn w w') : Below w.heap.size w w' := by
  obtain ⟨n, rfl⟩ := h
  exact pw_below_drewN (Below.refl _ _) n
theorem ints_same {xs : List Int} {n : Nat} (hn : xs.length = n) (A B : Option Addr) (c d : Nat) (w : World) (hr0 : Kd.C (Kd.int .i64) w A xs.length xs) (hc0 : xs.length ≤ c) (hr1 : Kd.C (Kd.int .i64) w B xs.length xs) (hc1 : xs.length ≤ d) (hl : xs.length ≤ 9223372036854775807) :
    Calls Tryz.prog 20 #[.slice A n c, .slice B n d] w fun e w' => e = .returned (.bool true) ∧ Below w.heap.size w w' := by
  subst hn
  refine (ints_any xs xs A B c d w hr0 hc0 hr1 hc1 hl).mono ?_
  rintro e w' ⟨rfl, hb⟩
  exact ⟨by rw [decide_eq_true rfl], dr_below hb⟩
theorem awk_ints (x y z : Int) {w : World} {A : Option Addr} {c : Nat} (h : Kd.C (Kd.int .i64) w A [x, y, z].length [x, y, z]) (hc : [x, y, z].length ≤ c) :
    Calls Tryz.prog 20 #[.slice A 3 c, .slice (some ⟨w.heap.size, 0, none⟩) 3 3] (w.alloc (.cells #[.int .i64 x, .int .i64 y, .int .i64 z] 3)) fun e w' => e = .returned (.bool true) ∧ Below w.heap.size w w' := by
  have h2 := C_ints w 3 [x, y, z] (show 3 ≤ 9223372036854775807 by omega)
  have h1 := Kd.C_alloc h (.cells ([x, y, z].map (Value.int .i64)).toArray 3)
  have h3 := ints_same (n := 3) rfl A (some ⟨w.heap.size, 0, none⟩) c 3 _ h1 hc h2 (Nat.le_refl _) (show 3 ≤ 9223372036854775807 by omega)
  refine h3.mono ?_
  rintro e w' ⟨rfl, hb⟩
  exact ⟨rfl, bt_ (below_alloc (Below.refl _ _) _) hb⟩
theorem awk_worlds (w : World) : ((w.alloc (.cells #[.int .i64 97, .int .i64 98] 91 (0, 0))).alloc (.cells #[.int .i64 300, .string ⟨#[60]⟩] 93 (0, 0))).heap[w.heap.size]? = some (.cells #[.int .i64 97, .int .i64 98] 91 (0, 0)) ∧ ((w.alloc (.cells #[.int .i64 97, .int .i64 98] 91 (0, 0))).alloc (.cells #[.int .i64 300, .string ⟨#[60]⟩] 93 (0, 0))).heap[w.heap.size + 1]? = some (.cells #[.int .i64 300, .string ⟨#[60]⟩] 93 (0, 0)) := by
  generalize Obj.cells #[.int .i64 97, .int .i64 98] 91 (0, 0) = a
  generalize Obj.cells #[.int .i64 300, .string ⟨#[60]⟩] 93 (0, 0) = b
  have h : ((w.alloc a).alloc b).heap = (w.heap.push a).push b := rfl
  rw [h]
  refine ⟨?_, ?_⟩
  · rw [Array.getElem?_push, if_neg (by simp), Array.getElem?_push, if_pos rfl]
  · rw [Array.getElem?_push, if_pos (by simp)]
set_option maxRecDepth 100000 in
set_option maxHeartbeats 1000000 in
theorem awake_any (w : World) : Calls Tryz.prog 14 #[] w fun e w' => e = .returned (.bool true) ∧ Below w.heap.size w w' := by
  have HW := awk_worlds w
  have HB0 := As.mk (below_alloc (below_alloc (Below.refl w.heap.size w) (.cells #[.int .i64 97, .int .i64 98] 91)) (.cells #[.int .i64 300, .string ⟨#[60]⟩] 93))
  have hsz : w.heap.size ≤ ((w.alloc (.cells #[.int .i64 97, .int .i64 98] 91 (0, 0))).alloc (.cells #[.int .i64 300, .string ⟨#[60]⟩] 93 (0, 0))).heap.size := HB0.out.size
  have hat : SpAt ((w.alloc (.cells #[.int .i64 97, .int .i64 98] 91 (0, 0))).alloc (.cells #[.int .i64 300, .string ⟨#[60]⟩] 93 (0, 0))) (some ⟨w.heap.size, 0, none⟩) (some ⟨w.heap.size + 1, 0, none⟩) none none sE :=
    ⟨Rt.C_blk_mrg HW.1, Rt.C_blk_sp (y := ⟨300, ⟨#[60]⟩⟩) HW.2, ⟨rfl, by decide, fun h => absurd h (by decide)⟩, ⟨rfl, by decide, fun h => absurd h (by decide)⟩⟩
  have hn := new_ok 1 1 0 0 hat sE_ok
  rw [show spV (some ⟨w.heap.size, 0, none⟩) (some ⟨w.heap.size + 1, 0, none⟩) none none 1 1 0 0 sE = .agg #[.bool false, .slice (some ⟨w.heap.size, 0, none⟩) 1 1, .slice none 0 0, .slice (some ⟨w.heap.size + 1, 0, none⟩) 1 1, .slice none 0 0, .slice none 0 0] from rfl] at hn
  have HN := As.mk hn
  clear hn hat HW
  have hz : ∀ w, (zeroValue 95).run Tryz.prog w = .ok (.agg #[.bool false, .slice none 0 0, .slice none 0 0, .slice none 0 0, .slice none 0 0, .slice none 0 0]) w := fun w => by kernel_rfl
  go_enter Tryz.func14, Tryz.ntmps14
  go_wp2_with (first
    | (go_at_call 50; refine HN.out.mono ?_; rintro e w1 ⟨v, rfl, hv, hle, hb⟩; have HV1 := As.mk hv; have HB1 := As.mk (HB0.out.trans (hb.mono hsz)); clear hv hle hb HN)
    | (go_at_call 23; have ht := text_any HV1.out sE_ok.sp ⟨#[97, 98, 60, 97]⟩ (by decide); rw [tE] at ht; refine ht.mono ?_; clear ht; rintro e w2 ⟨sa, rfl, ha, hb⟩; have HA2 := As.mk ha; have HV2 := As.mk (HV1.out.below hb); have HB2 := As.mk (bt_ HB1.out hb); clear ha hb HV1)
    | (go_at_call 24; have ht := plain_any HV2.out sE_ok.sp ⟨#[97, 98, 60, 97]⟩ (by decide); rw [pE] at ht; refine ht.mono ?_; clear ht; rintro e w3 ⟨sb, rfl, ha, hb⟩; have HP3 := As.mk ha; have HA3 := As.mk (Kd.R_below HA2.out hb); have HB3 := As.mk (bt_ HB2.out hb); clear ha hb HV2; obtain ⟨Aa, ca, rfl, hca, hCa⟩ := Kd.R_reads HA3.out; obtain ⟨Ab, cb, rfl, hcb, hCb⟩ := Kd.R_reads HP3.out; have HCa := As.mk hCa; have HCb := As.mk hCb; clear hCa hCb HA2 HA3 HP3)
    | (go_at_call 20; refine (awk_ints 256 300 97 HCa.out hca).mono ?_; rintro e w4 ⟨rfl, hb⟩; have HB4 := As.mk (bt_ HB3.out hb); have HC4 := As.mk (Kd.C_below HCb.out hb); clear hb HCa)
    | (go_at_call 20; refine (awk_ints 256 60 97 HC4.out hcb).mono ?_; rintro e w5 ⟨rfl, hb⟩; have HB5 := As.mk (bt_ HB4.out hb); clear hb))
  go_ret
  exact ⟨rfl, HB5.out⟩
set_option maxRecDepth 100000 in
set_option maxHeartbeats 1000000 in
theorem encodeNone_any (s : ByteArray) (A : Option Addr) (n c : Nat) (w : World) : Calls Tryz.prog 5 #[.string s, .slice A n c] w fun e w' => e = .returned (.bool true) ∧ Below w.heap.size w w' := by
  by_cases h1 : 100 < s.size
  · have hI : (100 : Int) < (s.size : Int) := by omega
    go_enter Tryz.func5, Tryz.ntmps5
    go_wp2_with (go_at_call 14; refine (awake_any _).mono ?_; rintro e w1 ⟨rfl, hb⟩)
    go_ret
    exact ⟨rfl, hb⟩
  · have hI : ¬ (100 : Int) < (s.size : Int) := by omega
    by_cases h2 : 100 < n
    · have hI2 : (100 : Int) < (n : Int) := by omega
      go_enter Tryz.func5, Tryz.ntmps5
      go_wp2_with (go_at_call 14; refine (awake_any _).mono ?_; rintro e w1 ⟨rfl, hb⟩)
      go_ret
      exact ⟨rfl, hb⟩
    · have hI2 : ¬ (100 : Int) < (n : Int) := by omega
      go_enter Tryz.func5, Tryz.ntmps5
      go_wp2_with (first
        | (go_at_call 18; refine (items_nil _ _ _ _).mono ?_; rintro e w1 ⟨rfl, hb1⟩; have HB1 := As.mk hb1; clear hb1)
        | (go_at_call 23; refine (text_nil _ _).mono ?_; rintro e w2 ⟨rfl, rfl⟩)
        | (go_at_call 24; refine (plain_nil _ _).mono ?_; rintro e w2 ⟨rfl, rfl⟩)
        | (go_at_call 17; refine (pieces_nil _ _ _ _).mono ?_; rintro e w3 ⟨rfl, hb3⟩; have HB3 := As.mk (bt_ HB1.out hb3); clear hb3)
        | (go_at_call 22; refine (made_nil _ _ _ _).mono ?_; rintro e w4 ⟨rfl, hb4⟩; have HB4 := As.mk (bt_ HB3.out hb4); clear hb4)
        | (go_at_call 14; refine (awake_any _).mono ?_; rintro e w5 ⟨rfl, hb5⟩; have HB5 := As.mk (bt_ HB4.out hb5); clear hb5))
      go_ret
      exact ⟨rfl, HB5.out⟩
end Go.Proofs.YtkffhgiiejbnaaaGreat.En
