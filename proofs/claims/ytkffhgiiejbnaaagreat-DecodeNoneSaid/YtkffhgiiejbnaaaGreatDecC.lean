/- A decoder, fed; no condition but that it is one. -/
import Derived.Test.YtkffhgiiejbnaaaGreatVocB
import Derived.Test.YtkffhgiiejbnaaaGreatRfx0
import Derived.Test.YtkffhgiiejbnaaaGreatDecB
namespace Go.Proofs.YtkffhgiiejbnaaaGreat.Vc
open Go.Shelf Go.RowKit Go.Proofs.YtkffhgiiejbnaaaGreatW.PrintWords Go.Proofs.YtkffhgiiejbnaaaGreatW.PrintLast Go.Proofs.YtkffhgiiejbnaaaGreatW.PrintMore Go.Proofs.YtkffhgiiejbnaaaGreat.Rf Go.Proofs.YtkffhgiiejbnaaaGreat.Aid Go.Proofs.YtkffhgiiejbnaaaGreat.Mp Go.Proofs.YtkffhgiiejbnaaaGreat.Hp Go.Proofs.YtkffhgiiejbnaaaGreat.Fn Go.Proofs.YtkffhgiiejbnaaaGreat.Bn Go.Proofs.YtkffhgiiejbnaaaGreat.Tk
set_option linter.unusedVariables false
set_option linter.unusedSimpArgs false
set_option maxHeartbeats 400000

/-- tokens' items; how many; the error's number -/
def itF (s : Sp) : List Int → Nat → List Int → List Int × Nat × Int
  | [], n, xs => (xs, n, 0)
  | id :: l, n, xs => if hasId s id = true then itF s l (n + 1) (xs ++ itemsOf s id) else ([], n, 4)
theorem items_len {w : World} {v : Nat} {s : Sp} (h : VocAt w v s) (id : Int) : (itemsOf s id).length ≤ 64 := by
  obtain ⟨_, _, w0, pt, pb, pm, h1, h2, h3, h4, h5, h6, h7, h8⟩ := h
  unfold itemsOf
  split
  · simp
  · rw [bytesI_len]; exact byt_small h3.small id
/-- A use has been counted in block v; all else lies as it lay. -/
def Used (w : World) (v : Nat) (w' : World) : Prop := ∃ m : Int, Below w.heap.size (w.setCell ⟨v, 13, none⟩ (.int .i64 m)) w'
theorem set_size (w : World) (a : Addr) (u : Value) : (w.setCell a u).heap.size = w.heap.size := by simp [World.setCell]
set_option maxRecDepth 100000 in
set_option maxHeartbeats 2000000 in
theorem items_any {w : World} {v : Nat} {s : Sp} (h : VocAt w v s) (A : Option Addr) (c : Nat) (ids : List Int) (hr : ∀ m : Int, Kd.C (Kd.int .i64) (w.setCell ⟨v, 13, none⟩ (.int .i64 m)) A ids.length ids) (hl : ids.length ≤ 1000000) :
    Calls Tryz.prog 29 #[.pointer (some ⟨v, 0, none⟩), .slice A ids.length c] w fun e w' => ∃ sv : Value, e = .returned (.tuple #[sv, .int .i64 (itF s ids 0 []).2.1, .int .i64 (itF s ids 0 []).2.2]) ∧ Kd.R (Kd.int .i64) 3 w' w.heap.size (fun _ => True) sv (itF s ids 0 []).1 ∧ VocAt w' v s ∧ Used w v w' := by
  have HR := As.mk hr
  have HL := As.mk (items_len h)
  have HV := As.mk h
  clear hr h
  obtain ⟨R, hR⟩ : ∃ R, itF s ids 0 [] = R := ⟨_, rfl⟩
  have HF0 := As.mk (show itF s (ids.drop 0) 0 [] = R from hR)
  rw [hR]
  clear hR
  go_enter Tryz.func29, Tryz.ntmps29
  go_wp2_with (go_at_call 72; refine (uses_any HV.out).mono ?_; rintro e w1 ⟨m, rfl, hw1⟩; have HV1 := As.mk (HV.out.used m); have HR1 := As.mk (HR.out m); have hsz := set_size w ⟨v, 13, none⟩ (.int .i64 m); rw [← hw1] at HV1 HR1 hsz; have HW1 := As.mk hw1; have HSZ := As.mk hsz; clear hw1 hsz HR)
  go_loopg [7, 20] ids.length (fun k v7 v20 w' => ∃ (i : Nat) (xs : List Int), v20 = .int .i64 i ∧ i ≤ ids.length ∧ As (Kd.R (Kd.int .i64) 3 w' w1.heap.size (fun _ => True) v7 xs) ∧ As (itF s (ids.drop i) i xs = R) ∧ As (xs.length ≤ i * 64) ∧ As (ids.length - i ≤ k) ∧ As (Below w1.heap.size w1 w'))
  case atStart => exact ⟨0, [], rfl, Nat.zero_le _, ⟨Kd.R_nil _ _ _ _ _⟩, HF0, ⟨by simp⟩, ⟨by omega⟩, ⟨Below.refl _ _⟩⟩
  case round =>
    clear HF0
    obtain ⟨i, xs, rfl, hi, HO, HF, HX, HK, HB⟩ := hrel
    by_cases hlt : i < ids.length
    · obtain ⟨k1, rfl⟩ : ∃ k1, gk = k1 + 1 := ⟨gk - 1, by have := HK.out; omega⟩
      obtain ⟨ad, rfl, x0⟩ := Kd.at_int (Kd.C_below HR1.out HB.out) (i : Int) (by omega) (by omega)
      rw [Int.toNat_natCast, rdI hlt] at x0
      have hltI : (i : Int) < ids.length := by omega
      have HF' := As.mk (show itF s (ids[i] :: ids.drop (i + 1)) i xs = R from List.drop_eq_getElem_cons hlt ▸ HF.out)
      clear HF
      generalize ids[i] = id at *
      have HI := As.mk (items_one (HV1.out.below HB.out) id)
      cases hh : hasId s id with
      | false =>
        rw [hh] at HI
        have hA := HF'.out
        unfold itF at hA
        rw [if_neg (by rw [hh]; decide)] at hA
        subst hA
        clear HF' hh
        go_wp2_with (go_at_call 73; refine HI.out.mono ?_; rintro e w2 ⟨sv, rfl, ho, hb⟩; have HB2 := As.mk (bt_ HB.out hb); clear hb ho)
        go_ret3
        exact ⟨_, rfl, Kd.R_nil _ _ _ _ _, HV1.out.below HB2.out, m, by rw [← HW1.out, ← HSZ.out]; exact HB2.out⟩
      | true =>
        rw [hh] at HI
        have hA := HF'.out
        unfold itF at hA
        rw [if_pos hh] at hA
        have HA := As.mk hA
        clear HF' hh hA
        have HL1 := As.mk (HL.out id)
        generalize itemsOf s id = l at *
        go_wp2_with (first
          | (go_at_call 73; refine HI.out.mono ?_; rintro e w2 ⟨sv, rfl, ho, hb⟩; obtain ⟨A2, c2, rfl⟩ := Kd.R_slice ho; have HC2 := As.mk (Kd.R_reads' ho).2.2; have HO2 := As.mk (Kd.R_below HO.out hb); have HB2 := As.mk (bt_ HB.out hb); clear ho hb HO HB HI)
          | ((with_reducible refine gate_builtin (b := .append) (xs := #[.tmp 34, .tmp 35]) rfl ?_); at_builtin; refine Kd.R_append_rows (Kd.int .i64) (Rr := (Kd.int .i64).K w2) (w0 := w1) w1.heap.size rfl (.tmp 34) (.tmp 35) 41 3 (.int .i64 0) 8 rfl Tryz.underlying41 info3 rfl (by decide) (by omega) _ xs l A2 l.length c2 (fun _ => True) (fun _ => False) (by rfl) (by rfl) ?q1 ?q2 ?q3 (fun _ hk => hk.elim) (fun _ _ => trivial) ?q4 ?q5 ?q6 ?_; (case q1 => exact HO2.out); (case q2 => exact HC2.out.imp_ (Below.refl _ _) (fun _ _ h => h)); (case q3 => intro x cs hk; exact hk); (case q4 => exact HB2.out); (case q5 => exact HB2.out.size); (case q6 => have h1 := HX.out; have h2 := HL1.out; omega); intro v3 w3 ho hb hg hat; have HO3 := As.mk ho; have HB3 := As.mk hb; clear ho hb hg hat HO2 HB2))
        go_roundg k1
        case measure => omega
        case rel => exact ⟨i + 1, xs ++ l, by go_num, by omega, HO3, HA, ⟨by rw [List.length_append]; have h1 := HX.out; have h2 := HL1.out; omega⟩, ⟨by have := HK.out; omega⟩, HB3⟩
    · obtain rfl : i = ids.length := by omega
      have hA := HF.out
      rw [List.drop_length] at hA
      have hA' : (xs, ids.length, (0 : Int)) = R := hA
      subst hA'
      go_wp2
      go_ret3
      exact ⟨_, rfl, by rw [← HSZ.out]; exact HO.out, HV1.out.below HB.out, m, by rw [← HW1.out, ← HSZ.out]; exact HB.out⟩
end Go.Proofs.YtkffhgiiejbnaaaGreat.Vc
namespace Go.Proofs.YtkffhgiiejbnaaaGreat.Dc
open Go.Shelf Go.RowKit Go.Proofs.YtkffhgiiejbnaaaGreatW.PrintWords Go.Proofs.YtkffhgiiejbnaaaGreatW.PrintLast Go.Proofs.YtkffhgiiejbnaaaGreatW.PrintMore Go.Proofs.YtkffhgiiejbnaaaGreat.Rf Go.Proofs.YtkffhgiiejbnaaaGreat.Aid Go.Proofs.YtkffhgiiejbnaaaGreat.Mp Go.Proofs.YtkffhgiiejbnaaaGreat.Hp Go.Proofs.YtkffhgiiejbnaaaGreat.Tk Go.Proofs.YtkffhgiiejbnaaaGreat.Vc
set_option linter.unusedVariables false
set_option linter.unusedSimpArgs false
set_option maxHeartbeats 400000

theorem itF_err (s : Sp) : ∀ (l : List Int) (n : Nat) (xs : List Int), (itF s l n xs).2.2 = 0 ∨ ((itF s l n xs).2.2 = 4 ∧ (itF s l n xs).1 = [])
  | [], n, xs => .inl rfl
  | id :: l, n, xs => by
    unfold itF
    split
    · exact itF_err s l _ _
    · exact .inr ⟨rfl, rfl⟩
theorem itF_len (s : Sp) (h : ∀ id, (itemsOf s id).length ≤ 64) : ∀ (l : List Int) (n : Nat) (xs : List Int), (itF s l n xs).1.length ≤ xs.length + 64 * l.length
  | [], n, xs => by simp [itF]
  | id :: l, n, xs => by
    unfold itF
    split
    · have h1 := itF_len s h l (n + 1) (xs ++ itemsOf s id)
      have h2 := h id
      rw [List.length_append] at h1
      rw [List.length_cons]
      omega
    · simp
/-- the text of items -/
def rendS (X : List Mk.Sp) (xs : List Int) : ByteArray := match Mk.rendF (Mk.hasP X) xs with | some l => ⟨l.toArray⟩ | none => ⟨#[]⟩
theorem rendV_eq (X : List Mk.Sp) (xs : List Int) : Mk.rendV (Mk.rendF (Mk.hasP X) xs) = .tuple #[.string (rendS X xs), .bool (Mk.rendF (Mk.hasP X) xs).isSome] := by
  unfold Mk.rendV rendS
  cases Mk.rendF (Mk.hasP X) xs <;> rfl
theorem used_below {w : World} {v : Nat} {w1 w2 : World} (h : Used w v w1) (hb : Below w1.heap.size w1 w2) : Used w v w2 := by
  obtain ⟨m, hm⟩ := h
  exact ⟨m, hm.trans (hb.mono (by rw [← set_size w ⟨v, 13, none⟩ (.int .i64 m)]; exact hm.size))⟩
def textF (s : Sp) (ids : List Int) : ByteArray := if (itF s ids 0 []).2.2 = 0 then rendS s.X (itF s ids 0 []).1 else ⟨#[]⟩
set_option maxRecDepth 100000 in
theorem text_any {w : World} {v : Nat} {s : Sp} (h : VocAt w v s) (A : Option Addr) (c : Nat) (ids : List Int) (hr : ∀ m : Int, Kd.C (Kd.int .i64) (w.setCell ⟨v, 13, none⟩ (.int .i64 m)) A ids.length ids) (hl : ids.length ≤ 4000) :
    Calls Tryz.prog 76 #[.pointer (some ⟨v, 0, none⟩), .slice A ids.length c] w fun e w' => e = .returned (.tuple #[.string (textF s ids), .int .i64 (itF s ids 0 []).2.1, .int .i64 (itF s ids 0 []).2.2]) ∧ VocAt w' v s ∧ Used w v w' := by
  have HI := As.mk (items_any h A c ids hr (by omega))
  have hlen := itF_len s (items_len h) ids 0 []
  have hle : ¬ (4000 : Int) < (ids.length : Int) := by omega
  have he := itF_err s ids 0 []
  clear h hr
  unfold textF
  generalize itF s ids 0 [] = R at *
  obtain ⟨xs, n, e0⟩ := R
  simp only at *
  have HL := As.mk (show xs.length ≤ 1000000000000 by simp at hlen; omega)
  clear hlen
  rcases he with rfl | ⟨rfl, rfl⟩
  · rw [if_pos rfl]
    generalize hSS : rendS s.X xs = S
    have HSS := As.mk hSS
    clear hSS
    go_enter Tryz.func76, Tryz.ntmps76
    go_wp2_with (first
      | (go_at_call 29; refine HI.out.mono ?_; rintro e w1 ⟨sv, rfl, ho, hv, hu⟩; obtain ⟨A2, c2, rfl⟩ := Kd.R_slice ho; have HC := As.mk (Kd.R_reads' ho).2.2; have HV := As.mk hv; have HU := As.mk hu; clear ho hv hu HI)
      | (go_at_call 67; refine (marks_any HV.out).mono ?_; rintro e w2 ⟨pm, rfl, hp, rfl⟩; have HP := As.mk hp; clear hp)
      | (go_at_call 105; have hren := Mk.render_any HP.out A2 c2 xs HC.out HL.out; rw [rendV_eq, HSS.out] at hren; generalize (Mk.rendF (Mk.hasP s.X) xs).isSome = bS at *; refine hren.mono ?_; clear hren; rintro e w3 ⟨rfl, hb⟩; have HB := As.mk hb; clear hb))
    go_ret3
    exact ⟨rfl, HV.out.below HB.out, used_below HU.out HB.out⟩
  · rw [if_neg (by decide)]
    go_enter Tryz.func76, Tryz.ntmps76
    go_wp2_with (go_at_call 29; refine HI.out.mono ?_; rintro e w1 ⟨sv, rfl, ho, hv, hu⟩; have HV := As.mk hv; have HU := As.mk hu; clear ho hv hu HI)
    go_ret3
    exact ⟨rfl, HV.out, HU.out⟩
end Go.Proofs.YtkffhgiiejbnaaaGreat.Dc
namespace Go.Proofs.YtkffhgiiejbnaaaGreat.Dc
open Go.Shelf Go.RowKit Go.Proofs.YtkffhgiiejbnaaaGreatW.PrintWords Go.Proofs.YtkffhgiiejbnaaaGreatW.PrintLast Go.Proofs.YtkffhgiiejbnaaaGreatW.PrintMore Go.Proofs.YtkffhgiiejbnaaaGreat.Rf Go.Proofs.YtkffhgiiejbnaaaGreat.Aid Go.Proofs.YtkffhgiiejbnaaaGreat.Mp Go.Proofs.YtkffhgiiejbnaaaGreat.Hp Go.Proofs.YtkffhgiiejbnaaaGreat.Tk Go.Proofs.YtkffhgiiejbnaaaGreat.Vc
set_option linter.unusedVariables false
set_option linter.unusedSimpArgs false
set_option maxHeartbeats 400000

theorem slice_to (s : ByteArray) (q : Nat) (h : q ≤ s.size) (W : World) : (Instr.slice 9 (.string s) none (some (.int .i64 (q : Int))) none).run Tryz.prog W = .ok (.string (s.extract 0 q)) W := by
  have h1 : (q : Int) ≤ (s.size : Int) := by omega
  simp [Instr.slice, run_underlying Tryz.underlying9, go_sem, Result.andThen, h1, h]
set_option maxRecDepth 100000 in
theorem pass_any {w : World} {d : Nat} {hd t : ByteArray} (hc : w.cell? ⟨d, 0, none⟩ = some (.string hd)) (hz : w.frozen? ⟨d, 0, none⟩ = false) (q : Nat) (hq : (hd ++ t).size = q + heldF (hd ++ t)) (hb : (hd ++ t).size ≤ 1000000000) :
    Calls Tryz.prog 82 #[.pointer (some ⟨d, 0, none⟩), .string t] w fun e w' => e = .returned (.string ((hd ++ t).extract 0 q)) ∧ ∃ W, Below w.heap.size w W ∧ w' = W.setCell ⟨d, 0, none⟩ (.string ((hd ++ t).extract q (hd ++ t).size)) := by
  have hdl : d < w.heap.size := World.block_lt_of_cell? w _ hc
  obtain ⟨x, hx⟩ : ∃ x, x = hd ++ t := ⟨_, rfl⟩
  rw [← hx] at hq hb ⊢
  have HC := As.mk (fun W => held_any x hb W)
  have hs1 := slice_str x q (by omega)
  have hs2 := slice_to x q (by omega)
  have hqb : (q : Int) ≤ 1000000000 := by omega
  generalize x.extract q x.size = T1 at *
  generalize x.extract 0 q = T0 at *
  generalize heldF x = n at *
  have hxx : hd ++ t = x := hx.symm
  have hbig : ¬ 9223372036854775807 < hd.size + t.size := by rw [hx, ByteArray.size_append] at hb; omega
  have HX := As.mk hx
  clear hx hb
  go_enter Tryz.func82, Tryz.ntmps82
  go_wp2_with (go_at_call 31; refine (HC.out _).mono ?_; rintro e w1 ⟨rfl, hb1⟩; have HB1 := As.mk hb1; have hc1 := pw_cell_below hb1 hc; have hz1 : w1.frozen? ⟨d, 0, none⟩ = false := (by have := hb1.block d hdl; simp only [World.frozen?, this] at hz ⊢; exact hz))
  go_ret
  exact ⟨rfl, w1, HB1.out, rfl⟩
/-- Block d is a decoder that is not closed. -/
structure DecAt (w : World) (d v : Nat) (hd : ByteArray) (told : Nat) : Prop where
  blk : w.heap[d]? = some (.cells #[.string hd, .pointer (some ⟨v, 0, none⟩), .bool false, .int .i64 (told : Int)] 155 (0, 0))
theorem DecAt.lt {w : World} {d v : Nat} {hd : ByteArray} {told : Nat} (h : DecAt w d v hd told) : d < w.heap.size := blk_lt h.blk
theorem DecAt.below {w w' : World} {d v : Nat} {hd : ByteArray} {told : Nat} (h : DecAt w d v hd told) (hb : Below w.heap.size w w') : DecAt w' d v hd told := ⟨(hb.block _ h.lt).trans h.blk⟩
theorem DecAt.used {w w' : World} {d v : Nat} {hd : ByteArray} {told : Nat} (h : DecAt w d v hd told) (hne : d ≠ v) (hu : Used w v w') : DecAt w' d v hd told := by
  obtain ⟨m, hm⟩ := hu
  exact ⟨(hm.block _ h.lt).trans ((Below.heap_setCell w ⟨v, 13, none⟩ _ d hne).trans h.blk)⟩
theorem Used.under {w w' : World} {v base : Nat} (hu : Used w v w') (h1 : base ≤ v) (h2 : base ≤ w.heap.size) : Below base w w' := by
  obtain ⟨m, hm⟩ := hu
  exact ((Below.refl base w).setCell (p := ⟨v, 13, none⟩) h1 _).trans (hm.mono h2)
theorem new_any (v : Nat) (w : World) : Calls Tryz.prog 44 #[.pointer (some ⟨v, 0, none⟩)] w fun e w' => ∃ d, e = .returned (.pointer (some ⟨d, 0, none⟩)) ∧ d = w.heap.size ∧ DecAt w' d v ⟨#[]⟩ 0 ∧ Below w.heap.size w w' := by
  go_enter Tryz.func44, Tryz.ntmps44
  go_wp2
  go_ret
  exact ⟨_, rfl, rfl, ⟨(Go.MapKept.heap_alloc w _).1⟩, below_alloc (Below.refl _ _) _⟩
theorem new_nil (w : World) : Calls Tryz.prog 44 #[.pointer none] w fun e w' => e = .returned (.pointer none) ∧ w = w' := by
  go_enter Tryz.func44, Tryz.ntmps44
  go_wp2
  go_ret
  exact ⟨rfl, rfl⟩
theorem voc_set {w : World} {v d : Nat} {s : Sp} (h : VocAt w v s) (hvd : v < d) (j : Nat) (u : Value) : VocAt (w.setCell ⟨d, j, none⟩ u) v s := by
  obtain ⟨⟨cs, hc⟩, ⟨n, hn⟩, w0, pt, pb, pm, h1, h2, h3, h4, h5, h6, h7, h8⟩ := h
  have far : ∀ i x, w.cell? ⟨v, i, none⟩ = some x → (w.setCell ⟨d, j, none⟩ u).cell? ⟨v, i, none⟩ = some x := fun i x hx => by
    simp only [World.cell?] at hx ⊢
    rw [Below.heap_setCell w ⟨d, j, none⟩ u v (Nat.ne_of_lt hvd)]
    exact hx
  exact ⟨⟨cs, (Below.heap_setCell w ⟨d, j, none⟩ u v (Nat.ne_of_lt hvd)).trans hc⟩, ⟨n, far _ _ hn⟩, w0, pt, pb, pm, h1, h2.setCell (p := ⟨d, j, none⟩) (Nat.le_of_lt (Nat.lt_of_le_of_lt h1 hvd)) _, h3, h4, h5, far _ _ h6, far _ _ h7, far _ _ h8⟩
set_option maxRecDepth 100000 in
theorem feed_ok {w : World} {d v told : Nat} {hd : ByteArray} {s : Sp} (hD : DecAt w d v hd told) (hV : VocAt w v s) (hvd : v < d) (A : Option Addr) (c : Nat) (ids : List Int) (hr : ∀ m : Int, Kd.C (Kd.int .i64) (w.setCell ⟨v, 13, none⟩ (.int .i64 m)) A ids.length ids) (hl : ids.length ≤ 4000) (hok : (itF s ids 0 []).2.2 = 0)
    (q : Nat) (hq : (hd ++ textF s ids).size = q + heldF (hd ++ textF s ids)) (hb : (hd ++ textF s ids).size ≤ 1000000000) (ht : told ≤ 1000000000) (base : Nat) (h1 : base ≤ v) (h2 : base ≤ d) (h3 : base ≤ w.heap.size) :
    Calls Tryz.prog 45 #[.pointer (some ⟨d, 0, none⟩), .slice A ids.length c] w fun e w' => e = .returned (.tuple #[.string ((hd ++ textF s ids).extract 0 q), .int .i64 (itF s ids 0 []).2.1, .int .i64 0]) ∧ DecAt w' d v ((hd ++ textF s ids).extract q (hd ++ textF s ids).size) (told + q) ∧ VocAt w' v s ∧ Below base w w' := by
  have hne : d ≠ v := Nat.ne_of_gt hvd
  have HT := As.mk (text_any hV A c ids hr hl)
  rw [hok] at HT
  have hqs : ((hd ++ textF s ids).extract 0 q).size = q := by rw [ByteArray.size_extract]; omega
  have hqb : (q : Int) ≤ 1000000000 := by omega
  have htb : (told : Int) ≤ 1000000000 := by omega
  have HD := As.mk hD
  have c1 := cell_of (i := 1) hD.blk rfl
  have c2 := cell_of (i := 2) hD.blk rfl
  have HB := As.mk (And.intro h1 (And.intro h2 h3))
  generalize textF s ids = t at *
  have HP := As.mk (fun (W : World) (h : DecAt W d v hd told) => pass_any (t := t) (cell_of (i := 0) h.blk rfl) (frozen_of h.blk 0) q hq hb)
  generalize (hd ++ t).extract 0 q = P at *
  generalize (hd ++ t).extract q (hd ++ t).size = R at *
  generalize (itF s ids 0 []).2.1 = n at *
  clear hV hr hok hq hb hD h1 h2 h3
  go_enter Tryz.func45, Tryz.ntmps45
  go_wp2_with (first
    | (go_at_call 76; refine HT.out.mono ?_; rintro e w1 ⟨rfl, hv, hu⟩; have HD1 := As.mk (HD.out.used hne hu); have HV1 := As.mk hv; have HB1 := As.mk (Used.under hu HB.out.1 HB.out.2.2); clear hv hu c1 c2 HT)
    | (go_at_call 82; refine (HP.out _ HD1.out).mono ?_; rintro e w3 ⟨rfl, w2, hb2, rfl⟩; have HB2 := As.mk ((HB1.out.trans (hb2.mono (Nat.le_trans HB.out.2.2 HB1.out.size))).setCell (p := ⟨d, 0, none⟩) HB.out.2.1 (.string R)); have hD2 : (w2.setCell ⟨d, 0, none⟩ (.string R)).heap[d]? = some (.cells #[.string R, .pointer (some ⟨v, 0, none⟩), .bool false, .int .i64 (told : Int)] 155 (0, 0)) := blk_set ((hb2.block _ HD1.out.lt).trans HD1.out.blk) 0 _; have HV2 := As.mk (HV1.out.below hb2); have HD2 := As.mk hD2; have c3 := cell_of (i := 3) hD2 rfl; have z3 := blk_frozen hD2 3; clear hD2 hb2))
  go_ret3
  exact ⟨rfl, ⟨blk_set HD2.out 3 _⟩, voc_set (voc_set HV2.out hvd _ _) hvd _ _, HB2.out.setCell (p := ⟨d, 3, none⟩) HB.out.2.1 _⟩
theorem feed_nil (l : Value) (w : World) : Calls Tryz.prog 45 #[.pointer none, l] w fun e w' => e = .returned (.tuple #[.string ⟨#[]⟩, .int .i64 0, .int .i64 1]) ∧ w = w' := by
  go_enter Tryz.func45, Tryz.ntmps45
  go_wp2
  go_ret3
  exact ⟨rfl, rfl⟩
theorem text_nil (l : Value) (w : World) : Calls Tryz.prog 76 #[.pointer none, l] w fun e w' => e = .returned (.tuple #[.string ⟨#[]⟩, .int .i64 0, .int .i64 1]) ∧ w = w' := by
  go_enter Tryz.func76, Tryz.ntmps76
  go_wp2
  go_ret3
  exact ⟨rfl, rfl⟩
theorem held_nil (w : World) : Calls Tryz.prog 46 #[.pointer none] w fun e w' => e = .returned (.int .i64 0) ∧ w = w' := by
  go_enter Tryz.func46, Tryz.ntmps46
  go_wp2
  go_ret
  exact ⟨rfl, rfl⟩
theorem bytes_nil (w : World) : Calls Tryz.prog 47 #[.pointer none] w fun e w' => e = .returned (.int .i64 0) ∧ w = w' := by
  go_enter Tryz.func47, Tryz.ntmps47
  go_wp2
  go_ret
  exact ⟨rfl, rfl⟩
theorem close_nil (w : World) : Calls Tryz.prog 48 #[.pointer none] w fun e w' => e = .returned (.string ⟨#[]⟩) ∧ w = w' := by
  go_enter Tryz.func48, Tryz.ntmps48
  go_wp2
  go_ret
  exact ⟨rfl, rfl⟩
theorem Text_nil (l : Value) (w : World) : Calls Tryz.prog 33 #[.pointer none, l] w fun e w' => e = .returned (.tuple #[.string ⟨#[]⟩, .int .i64 0, .int .i64 1]) ∧ w = w' := by
  go_enter Tryz.func33, Tryz.ntmps33
  go_wp2_with (go_at_call 76; refine (text_nil _ _).mono ?_; rintro e w1 ⟨rfl, rfl⟩)
  go_ret3
  exact ⟨rfl, rfl⟩
end Go.Proofs.YtkffhgiiejbnaaaGreat.Dc
