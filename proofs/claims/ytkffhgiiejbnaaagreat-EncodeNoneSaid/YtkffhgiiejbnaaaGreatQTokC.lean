import Derived.Test.YtkffhgiiejbnaaaGreatQTokB
set_option linter.unusedVariables false
set_option linter.unusedSimpArgs false
namespace Go.Proofs.YtkffhgiiejbnaaaGreat.Tk
open Go.RowKit Go.Proofs.YtkffhgiiejbnaaaGreatW.PrintWords Go.Proofs.YtkffhgiiejbnaaaGreatW.PrintLast Go.Proofs.YtkffhgiiejbnaaaGreatW.PrintMore Go.Proofs.YtkffhgiiejbnaaaGreat.Rf Go.Proofs.YtkffhgiiejbnaaaGreat.Aid Go.Proofs.YtkffhgiiejbnaaaGreat.Mp Go.Proofs.YtkffhgiiejbnaaaGreat.Hp
attribute [local go_sem] Aid.max_two Aid.min_two min2_mn max2_mx
set_option linter.unusedVariables false
set_option linter.unusedSimpArgs false
set_option maxHeartbeats 400000
theorem byte_conv (i : Nat) (hi : i < 256) (W : World) : (convert 109 9 (.slice (some ⟨W.heap.size, 0, none⟩) 1 1)).run Tryz.prog (W.alloc (.cells #[.int .u8 (i : Int)] 5)) = .ok (.string (byteE i).f0) (W.alloc (.cells #[.int .u8 (i : Int)] 5)) := by
  have ho : (W.alloc (.cells #[.int .u8 (i : Int)] 5)).ownsRow W.heap.size 5 1 (.slice (some ⟨W.heap.size, 0, none⟩) 1 1) 1 (nums .u8 [(i : Int)]) := own_lit W W.heap.size 5 .u8 [(i : Int)] (Nat.le_refl _) (by simp)
  have := own_string (P := Tryz.prog) (src := 109) (dst := 9) Tryz.underlying109 Tryz.underlying5 Tryz.underlying9 ho
  rw [this]
  congr 2
set_option maxRecDepth 100000 in
theorem begin_any (w : World) : Calls Tryz.prog 171 #[] w fun e w' => e = .returned (.pointer (some ⟨w.heap.size + 2, 0, none⟩)) ∧ (∃ v, TabRaw w' w.heap.size (w.heap.size + 2) v w.heap.size (w.heap.size + 1) 1 (byteL 256) (byteL 256) []) ∧ Below w.heap.size w w' := by
  have hmm := @run_makeMap Tryz.prog
  go_enter Tryz.func171, Tryz.ntmps171
  go_wp2_with fail
  have HO0 := As.mk (begin0 w)
  have HB0 := As.mk (below_alloc (below_alloc (below_alloc (Below.refl w.heap.size w) (.map #[] 0)) (.map #[] 0)) (.cells #[.slice none 0 0, .map (some w.heap.size), .map (some (w.heap.size + 1)), .int .i64 1] 227))
  clear hmm
  simp only [Nat.add_assoc, Nat.reduceAdd] at HO0 HB0 ⊢
  generalize ((w.alloc (.map #[] 0)).alloc (.map #[] 0)).alloc (.cells #[.slice none 0 0, .map (some w.heap.size), .map (some (w.heap.size + 1)), .int .i64 1] 227) = W0 at HO0 HB0 ⊢
  go_loopg [8] 256 (fun k v w' => ∃ (i : Nat) (sv : Value) (W : World), v = .int .i64 i ∧ i ≤ 256 ∧ As (256 - i ≤ k) ∧ As (W = w') ∧ As (TabRaw w' w.heap.size (w.heap.size + 2) sv w.heap.size (w.heap.size + 1) 1 (byteL i) (byteL i) []) ∧ As (Below w.heap.size w w'))
  case atStart => exact ⟨0, .slice none 0 0, W0, rfl, Nat.zero_le _, ⟨by omega⟩, ⟨rfl⟩, HO0, HB0⟩
  case round =>
    clear HO0 HB0
    obtain ⟨i, sv, W, rfl, hi, HK, HW, HO, HB⟩ := hrel
    have hW := HW.out
    subst hW
    clear HW
    by_cases hlt : i < 256
    · obtain ⟨k1, rfl⟩ : ∃ k1, gk = k1 + 1 := ⟨gk - 1, by have := HK.out; omega⟩
      have hltI : (i : Int) < 256 := by omega
      have hbc := byte_conv i hlt
      obtain ⟨A, n, c, rfl⟩ : ∃ A n c, sv = .slice A n c := by obtain ⟨A, c, h⟩ := Kd.R_slice HO.out.rows; exact ⟨A, _, c, h⟩
      have c0 := HO.out.c0
      have c1 := HO.out.c1
      have hlp : w.heap.size + 2 < W.heap.size := blk_lt HO.out.blk
      have HR := As.mk HO.out.rows
      have HOa := As.mk (HO.out.below (below_alloc (Below.refl _ _) (.cells #[.int .u8 (i : Int)] 5)))
      go_wp2_with ((with_reducible refine gate_builtin (b := .append) (xs := #[.tmp 19, .tmp 23]) rfl ?_); at_builtin; refine Kd.R_append kEnt (w0 := w) w.heap.size rfl (.tmp 19) (.tmp 23) 224 223 (.agg #[.string ⟨#[]⟩, .int .i64 0, .int .i64 0]) 32 rfl Tryz.underlying224 info_ent rfl (by decide) (by omega) (.slice A n c) (byteL i) (byteE i) [.string (byteE i).f0, .int .i64 (-1), .int .i64 (-1)] (fun _ => True) (fun _ => False) rfl ?aX ?aP (fun _ hk => hk.elim) ?aF ?aO ?aB ?aS ?aL ?_; (case aX => first | exact rfl | (simp [Act.eval, go_sem]; done)); (case aP => exact kEnt_mkM _ _ _ (byteE i)); (case aF => exact (fun _ _ => trivial)); (case aO => exact (by (with_reducible repeat (first | apply Kd.R_alloc | apply Kd.R_drewN | apply Kd.R_drew)); exact HR.out)); (case aB => exact (by repeat (first | (with_reducible first | exact HB.out | apply below_alloc | apply pw_below_drewN | apply below_drew1) | exact HB.out))); (case aS => exact (below_size (by repeat (first | (with_reducible first | exact HB.out | apply below_alloc | apply pw_below_drewN | apply below_drew1) | exact HB.out)))); (case aL => (rw [byteL_len]; omega)); intro v1 w1 ho hb hg hat; have hk1 := blk_grown HOa.out.blk hg (Kd.R_ne HOa.out.rows HOa.out.blk (by decide)); obtain ⟨A1, n1, c1', rfl⟩ : ∃ A1 n1 c1', v1 = .slice A1 n1 c1' := (by obtain ⟨A1, c1', h⟩ := Kd.R_slice ho; exact ⟨A1, _, c1', h⟩); have z0 : w1.cell? ⟨w.heap.size + 2, 0, none⟩ = some (.slice A n c) := (by simp only [World.cell?, hk1]; rfl); have z1 : w1.cell? ⟨w.heap.size + 2, 1, none⟩ = some (.map (some w.heap.size)) := (by simp only [World.cell?, hk1]; rfl); have y0 := blk_frozen hk1 0; have HT := As.mk (HOa.out.told hg ho); clear hk1 HOa; obtain ⟨w3, hr3, hm3, hb3⟩ := update_run (P := Tryz.prog) (E := encStr) (mty := 189) Tryz.underlying189 Tryz.underlying9 HT.out.bytes (byteE i).f0 (.int .i64 (i : Int)); simp only [encStr] at hr3; have HM3 := As.mk hm3; have HB3 := As.mk hb3; clear hm3 hb3; have HO_ := As.mk ho; have HB_ := As.mk hb; clear HR HB ho hb hg hat; have HR := HO_; have HB := HB_; clear HO_ HB_)
      have HMX := HM3.out
      have hlen : ((byteL i).length : Int) = i := by rw [byteL_len]
      rw [← hlen, put_bytl _ _ (idxB_byteL i hlt), ← byteL_succ] at HMX
      have hT4 := HT.out.putB HB3.out HMX
      go_roundg k1
      case measure => omega
      case rel =>
        rw [← byteL_succ] at hT4
        exact ⟨i + 1, _, _, by go_num, by omega, ⟨by have := HK.out; omega⟩, ⟨rfl⟩, ⟨hT4⟩, ⟨(HB.out.setCell (p := ⟨w.heap.size + 2, 0, none⟩) (by show w.heap.size ≤ w.heap.size + 2; omega) _).trans (HB3.out.below (Nat.le_refl _))⟩⟩
    · obtain rfl : i = 256 := by omega
      go_wp2
      go_ret
      exact ⟨rfl, ⟨_, HO.out⟩, HB.out⟩
end Go.Proofs.YtkffhgiiejbnaaaGreat.Tk
