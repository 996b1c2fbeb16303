import Derived.Laws.LoneSync
import Derived.Test.YtkffhgiiejbnaaaGreatQVocA
import Derived.Test.YtkffhgiiejbnaaaGreatQRendRef
import Derived.Test.YtkffhgiiejbnaaaGreatQ01
import Derived.Test.YtkffhgiiejbnaaaGreatQ03
set_option linter.unusedVariables false
set_option linter.unusedSimpArgs false
namespace Go.Proofs.YtkffhgiiejbnaaaGreat.Vc
open Go.Shelf Go.RowKit Go.Proofs.YtkffhgiiejbnaaaGreatW.PrintWords Go.Proofs.YtkffhgiiejbnaaaGreatW.PrintLast Go.Proofs.YtkffhgiiejbnaaaGreatW.PrintMore Go.Proofs.YtkffhgiiejbnaaaGreat.Rf Go.Proofs.YtkffhgiiejbnaaaGreat.Aid Go.Proofs.YtkffhgiiejbnaaaGreat.Mp Go.Proofs.YtkffhgiiejbnaaaGreat.Hp Go.Proofs.YtkffhgiiejbnaaaGreat.Fn Go.Proofs.YtkffhgiiejbnaaaGreat.Bn Go.Proofs.YtkffhgiiejbnaaaGreat.Tk
set_option linter.unusedVariables false
set_option linter.unusedSimpArgs false
set_option maxHeartbeats 400000
theorem VocAt.lt {w : World} {v : Nat} {s : Sp} (h : VocAt w v s) : v < w.heap.size := by obtain ⟨cs, hc⟩ := h.blk; exact blk_lt hc
theorem VocAt.below {w w' : World} {v : Nat} {s : Sp} (h : VocAt w v s) (hb : Below w.heap.size w w') : VocAt w' v s := by
  obtain ⟨⟨cs, hc⟩, ⟨n, hn⟩, w0, pt, pb, pm, h1, h2, h3, h4, h5, h6, h7, h8⟩ := h
  exact ⟨⟨cs, (hb.block _ (blk_lt hc)).trans hc⟩, ⟨n, pw_cell_below hb hn⟩, w0, pt, pb, pm, h1, h2.trans (hb.mono h2.size), h3, h4, h5, pw_cell_below hb h6, pw_cell_below hb h7, pw_cell_below hb h8⟩
theorem VocAt.used {w : World} {v : Nat} {s : Sp} (h : VocAt w v s) (m : Int) : VocAt (w.setCell ⟨v, 13, none⟩ (.int .i64 m)) v s := by
  obtain ⟨⟨cs, hc⟩, ⟨n, hn⟩, w0, pt, pb, pm, h1, h2, h3, h4, h5, h6, h7, h8⟩ := h
  exact ⟨⟨_, blk_set hc 13 _⟩, ⟨m, set_eq hn⟩, w0, pt, pb, pm, h1, h2.setCell (p := ⟨v, 13, none⟩) h1 _, h3, h4, h5, by rw [set_ne _ _ _ _ _ (by decide)]; exact h6, by rw [set_ne _ _ _ _ _ (by decide)]; exact h7, by rw [set_ne _ _ _ _ _ (by decide)]; exact h8⟩
theorem uses_any {w : World} {v : Nat} {s : Sp} (h : VocAt w v s) : Calls Tryz.prog 72 #[.pointer (some ⟨v, 13, none⟩), .int .i64 1] w fun e w' => ∃ m : Int, e = .returned (.int .i64 m) ∧ w' = w.setCell ⟨v, 13, none⟩ (.int .i64 m) := by
  obtain ⟨n, hn⟩ := h.uses
  obtain ⟨cs, hc⟩ := h.blk
  have hz := blk_frozen hc 13
  have hadd := run_call_add (P := Tryz.prog) Tryz.func103 (by kernel_rfl) (by kernel_rfl) (by kernel_rfl) .i64 (by kernel_rfl) (y := 1) (s := wrap64 (n + 1)) hn hz (by simp [go_sem, i64_w])
  clear hc h
  go_enter Tryz.func72, Tryz.ntmps72
  go_wp2
  go_ret
  exact ⟨_, rfl, rfl⟩
theorem marks_any {w : World} {v : Nat} {s : Sp} (h : VocAt w v s) : Calls Tryz.prog 67 #[.pointer (some ⟨v, 0, none⟩)] w fun e w' => ∃ pm, e = .returned (.pointer (some ⟨pm, 0, none⟩)) ∧ Mk.SetAt w pm s.X ∧ w = w' := by
  obtain ⟨_, _, w0, pt, pb, pm, h1, h2, h3, h4, h5, h6, h7, h8⟩ := h
  have H := As.mk (h5.below h2)
  clear h5 h4 h3 h2 h1
  go_enter Tryz.func67, Tryz.ntmps67
  go_wp2
  go_ret
  exact ⟨pm, rfl, H.out, rfl⟩
def bytesI (s : ByteArray) : List Int := (List.range s.size).map (fun i : Nat => bt s (i : Int))
theorem bytesI_len (s : ByteArray) : (bytesI s).length = s.size := by simp [bytesI]
theorem bytes_run (s : ByteArray) (hs : s.size ≤ 17592186044415) : ∀ (d k i : Nat), i ≤ s.size → s.size - i = d → d < k → mark_Bytes.l0 k s ((bytesI s).take i) (s.size : Int) (i : Int) = some (bytesI s)
  | 0, k, i, h0, h1, h2 => by
    obtain ⟨k, rfl⟩ : ∃ m, k = m + 1 := ⟨k - 1, by omega⟩
    simp only [mark_Bytes.l0]
    rw [if_neg (by omega), List.take_of_length_le (by rw [bytesI_len]; omega)]
  | d + 1, k, i, h0, h1, h2 => by
    obtain ⟨k, rfl⟩ : ∃ m, k = m + 1 := ⟨k - 1, by omega⟩
    simp only [mark_Bytes.l0]
    have hl : ((bytesI s).take i).length = i := by rw [List.length_take, bytesI_len]; omega
    rw [if_pos (by omega), if_pos (by omega), if_pos (by omega), if_pos (by rw [hl]; omega)]
    have hb := bt_range s i
    have e1 : ((bytesI s).take i) ++ [wrap64 (bt s (i : Int))] = (bytesI s).take (i + 1) := by
      rw [List.take_succ_eq_append_getElem (by rw [bytesI_len]; omega), w64 (by omega) (by omega)]
      congr 2
      simp [bytesI]
    rw [e1, w64 (by omega) (by omega), show ((i : Int) + 1) = ((i + 1 : Nat) : Int) from by omega]
    exact bytes_run s hs d k (i + 1) (by omega) (by omega) (by omega)
theorem bytes_of (s : ByteArray) (hs : s.size ≤ 17592186044415) (w : World) : Calls Tryz.prog 28 #[.string s] w fun e w' => ∃ v0 : Value, e = .returned v0 ∧ Kd.R (Kd.int .i64) 3 w' w.heap.size (fun _ => True) v0 (bytesI s) ∧ Below w.heap.size w w' :=
  mark_Bytes.calls (s.size + 1) s (bytesI s) w (bytes_run s hs s.size (s.size + 1) 0 (by omega) (by omega) (by omega))
def hasId (s : Sp) (id : Int) : Bool := (Mk.idxI s.X id).isSome || hasE (tabOf s).1 id
def itemsOf (s : Sp) (id : Int) : List Int := match Mk.idxI s.X id with
  | some i => [-1 - (i : Int)]
  | none => bytesI (if hasE (tabOf s).1 id = true then byt (tabOf s).1 id else ⟨#[]⟩)
theorem bytes_at {p : Nat} {E : List Ent} {w : World} (h : TabAt w p E) (id : Int) : Calls Tryz.prog 104 #[.pointer (some ⟨p, 0, none⟩), .int .i64 id] w fun e w' => e = .returned (.tuple #[.string (if hasE E id = true then byt E id else ⟨#[]⟩), .bool (hasE E id)]) ∧ Below w.heap.size w w' := by
  cases hh : hasE E id with
  | true =>
    have h1 : 0 ≤ id ∧ id < (E.length : Int) := of_decide_eq_true hh
    obtain ⟨i, rfl⟩ := Int.eq_ofNat_of_zero_le h1.1
    have hi : i < E.length := by omega
    rw [if_pos rfl, byt_at hi]
    exact (bytes_yes h i hi).mono fun e w' ⟨he, hd⟩ => ⟨he, by obtain ⟨n, rfl⟩ := hd; exact pw_below_drewN (Below.refl _ _) n⟩
  | false =>
    have h1 : ¬ (0 ≤ id ∧ id < (E.length : Int)) := of_decide_eq_false hh
    rw [if_neg (by decide)]
    exact (bytes_no h id h1).mono fun e w' ⟨he, hd⟩ => ⟨he, hd ▸ Below.refl _ _⟩
theorem byt_small {E : List Ent} (h : ∀ x ∈ E, 1 ≤ x.f0.size ∧ x.f0.size ≤ 64) (id : Int) : (if hasE E id = true then byt E id else ⟨#[]⟩).size ≤ 64 := by
  cases hh : hasE E id with
  | true =>
    have h1 : 0 ≤ id ∧ id < (E.length : Int) := of_decide_eq_true hh
    obtain ⟨i, rfl⟩ := Int.eq_ofNat_of_zero_le h1.1
    have hi : i < E.length := by omega
    rw [if_pos rfl, byt_at hi]
    exact (h _ (List.getElem_mem hi)).2
  | false => rw [if_neg (by decide)]; decide
set_option maxRecDepth 100000 in
theorem items_one {w : World} {v : Nat} {s : Sp} (h : VocAt w v s) (id : Int) : Calls Tryz.prog 73 #[.pointer (some ⟨v, 0, none⟩), .int .i64 id] w fun e w' => ∃ sv : Value, e = .returned (.tuple #[sv, .bool (hasId s id)]) ∧ Kd.R (Kd.int .i64) 3 w' w.heap.size (fun _ => True) sv (itemsOf s id) ∧ Below w.heap.size w w' := by
  obtain ⟨_, _, w0, pt, pb, pm, h1, h2, h3, h4, h5, h6, h7, h8⟩ := h
  have HM := As.mk (Mk.mark_any (h5.below h2) id)
  have HT := As.mk (bytes_at (h3.below h2) id)
  have hsm := byt_small h3.small id
  have HS := As.mk hsm
  clear hsm h5 h4 h3 h2 h1 h7
  unfold hasId itemsOf
  cases hi : Mk.idxI s.X id with
  | some i =>
    rw [hi] at HM
    unfold Mk.markT Mk.markV at HM
    simp only [Option.isSome_some, Bool.true_or] at HM ⊢
    clear hi HT HS
    go_enter Tryz.func73, Tryz.ntmps73
    go_wp2_with (go_at_call 98; refine HM.out.mono ?_; rintro e w1 ⟨rfl, rfl⟩)
    go_ret2
    exact ⟨_, rfl, Kd.R_of_own (own_lit w w.heap.size 3 .i64 [-1 - (i : Int)] (Nat.le_refl _) (by simp)) (fun _ _ => trivial), below_alloc (Below.refl _ _) _⟩
  | none =>
    rw [hi] at HM
    unfold Mk.markT Mk.markV at HM
    simp only [Option.isSome_none, Bool.false_or] at HM ⊢
    clear hi
    generalize (if hasE (tabOf s).1 id = true then byt (tabOf s).1 id else ⟨#[]⟩) = sb at *
    generalize hasE (tabOf s).1 id = ok at *
    go_enter Tryz.func73, Tryz.ntmps73
    go_wp2_with (first
      | (go_at_call 98; refine HM.out.mono ?_; rintro e w1 ⟨rfl, rfl⟩)
      | (go_at_call 104; refine HT.out.mono ?_; rintro e w2 ⟨rfl, hb⟩; have HB2 := As.mk hb; clear hb)
      | (go_at_call 28; refine (bytes_of sb (by have := HS.out; omega) _).mono ?_; rintro e w3 ⟨sv, rfl, ho, hb⟩; have HB3 := As.mk (bt_ HB2.out hb); have HO3 := As.mk ho; clear ho hb))
    go_ret2
    exact ⟨_, rfl, Kd.R_lower HO3.out HB2.out.size, HB3.out⟩
end Go.Proofs.YtkffhgiiejbnaaaGreat.Vc
