import Derived.Test.YtkffhgiiejbnaaaGreatQRefS
set_option linter.unusedVariables false
set_option linter.unusedSimpArgs false
namespace Go.Proofs.YtkffhgiiejbnaaaGreat.Rt
open Go.RowKit Go.Proofs.YtkffhgiiejbnaaaGreatW.PrintWords Go.Proofs.YtkffhgiiejbnaaaGreat.Rf Go.Proofs.YtkffhgiiejbnaaaGreat.Aid Go.Proofs.YtkffhgiiejbnaaaGreat.Mp Go.Proofs.YtkffhgiiejbnaaaGreat.Hp Go.Proofs.YtkffhgiiejbnaaaGreat.Tk Go.Proofs.YtkffhgiiejbnaaaGreat.Vc Go.Proofs.YtkffhgiiejbnaaaGreat.Bn
set_option linter.unusedVariables false
set_option linter.unusedSimpArgs false
theorem growL_good : ∀ (l : List Int) (E : List Ent), Tk.Good E → Tk.Good (growL l E)
  | x :: y :: l, E, h => growL_good l _ (more_good h _ _)
  | [], E, h => h
  | [x], E, h => h
theorem addC_take {E : List Ent} (h : Tk.Good E) {i : Nat} (h256 : 256 ≤ i) (hi : i < E.length) : addC (E.take i) (E[i]).f1 (E[i]).f2 = 0 ∧ newE (E.take i) (E[i]).f1 (E[i]).f2 = E[i] := by
  obtain ⟨p1, p2, p3, p4, p5⟩ := h.par i hi h256
  have hl : (E.take i).length = i := by rw [List.length_take]; omega
  have hb : ∀ c : Int, 0 ≤ c → c < (i : Int) → byt (E.take i) c = byt E c := fun c h0 h1 => by
    obtain ⟨n, rfl⟩ := Int.eq_ofNat_of_zero_le h0
    unfold byt
    rw [Int.toNat_natCast, List.getElem?_take, if_pos (by omega)]
  have hs : sumB (E.take i) (E[i]).f1 (E[i]).f2 = (E[i]).f0 := by unfold sumB; rw [hb _ p1 p2, hb _ p3 p4]; exact p5.symm
  have hn : idxB (E.take i) (E[i]).f0 = none := by
    unfold idxB
    rw [List.findIdx?_eq_none_iff]
    intro x hx
    rw [decide_eq_false_iff_not]
    intro he
    obtain ⟨j, hj, rfl⟩ := List.getElem_of_mem hx
    rw [List.getElem_take] at he
    have hj : j < i := by rw [hl] at hj; exact hj
    have hnd := h.nodup
    have h1 : (E.map (·.f0))[j]'(by simp; omega) = (E.map (·.f0))[i]'(by simp; omega) := by simpa using he
    exact absurd h1 (List.pairwise_iff_getElem.1 hnd j i (by simp; omega) (by simp; omega) hj)
  have ha : hasE (E.take i) (E[i]).f1 = true := by unfold hasE; rw [hl]; exact decide_eq_true ⟨p1, p2⟩
  have hb' : hasE (E.take i) (E[i]).f2 = true := by unfold hasE; rw [hl]; exact decide_eq_true ⟨p3, p4⟩
  refine ⟨?_, ?_⟩
  · unfold addC
    rw [if_pos ⟨ha, hb'⟩, hs, hn, hl]
    have h1 := (h.small _ (List.getElem_mem hi)).2
    have h2 := h.many.2
    rw [if_neg (by omega), if_neg (by omega)]
    rfl
  · unfold newE; rw [hs]
set_option maxRecDepth 10000 in
theorem good_run {E : List Ent} (h : Tk.Good E) : ∀ (d i : Nat), E.length - i = d → 256 ≤ i → i ≤ E.length → newT (E.take i) (mp ((mL E).drop (i - 256))) (i - 256) = (E, E.length - 256, 0)
  | 0, i, h0, h1, h2 => by
    rw [List.drop_eq_nil_of_le (by unfold mL; rw [List.length_map, List.length_drop]; omega), List.take_of_length_le (by omega)]
    have e : i - 256 = E.length - 256 := by omega
    rw [e]; rfl
  | d + 1, i, h0, h1, h2 => by
    have hi : i < E.length := by omega
    have hm : i - 256 < (mL E).length := by unfold mL; rw [List.length_map, List.length_drop]; omega
    obtain ⟨a1, a2⟩ := addC_take h h1 hi
    have he : (mL E)[i - 256] = ⟨(E[i]).f1, (E[i]).f2⟩ := by
      have e : 256 + (i - 256) = i := by omega
      simp only [mL, List.getElem_map, List.getElem_drop, e]
    rw [List.drop_eq_getElem_cons hm, he]
    show (if addC (E.take i) (E[i]).f1 (E[i]).f2 = 0 then newT (E.take i ++ [newE (E.take i) (E[i]).f1 (E[i]).f2]) (mp ((mL E).drop (i - 256 + 1))) (i - 256 + 1) else _) = _
    rw [if_pos a1, a2, ← List.take_succ_eq_append_getElem hi, show i - 256 + 1 = (i + 1) - 256 from by omega]
    exact good_run h d (i + 1) (by omega) (by omega) (by omega)
theorem good_tab {E : List Ent} (h : Tk.Good E) : newT (byteL 256) (mp (mL E)) 0 = (E, E.length - 256, 0) := by
  have := good_run h (E.length - 256) 256 rfl (Nat.le_refl _) h.many.1
  rw [h.first] at this
  simpa using this
theorem newF_good : ∀ (l S : List Mk.Sp) (n : Nat), (Mk.newF S l n).2 = 0 → ∀ x ∈ l, Mk.goodB x = true
  | [], S, n, _, x, hx => by cases hx
  | y :: l, S, n, h, x, hx => by
    unfold Mk.newF at h
    by_cases hc : Mk.addE S y = 0
    · rw [if_pos hc] at h
      rcases List.mem_cons.1 hx with rfl | hx
      · unfold Mk.addE at hc
        cases hg : Mk.goodB x with
        | true => rfl
        | false => rw [hg] at hc; cases hc
      · exact newF_good l _ _ h x hx
    · rw [if_neg hc] at h
      exact absurd h hc
theorem someX_ok : ∀ (l : List S93) (i : Nat) (acc : List S93), (Mk.newP acc).2 = 0 → (∀ x ∈ acc, 1000 ≤ x.f0) → (Mk.newP (someX l i acc)).2 = 0 ∧ ∀ x ∈ someX l i acc, 1000 ≤ x.f0
  | [], i, acc, h, hx => ⟨h, hx⟩
  | y :: l, i, acc, h, hx => by
    rw [someX_cons]
    by_cases hc : (Mk.newP (acc ++ [⟨1000 + (i : Int), y.f1⟩])).2 = 0
    · rw [if_pos hc]
      refine someX_ok l (i + 1) _ hc (fun x hm => ?_)
      rcases List.mem_append.1 hm with hm | hm
      · exact hx x hm
      · rw [List.mem_singleton.1 hm]; show 1000 ≤ 1000 + (i : Int); omega
    · rw [if_neg hc]
      exact someX_ok l (i + 1) acc h hx
theorem some_good (L : List Int) : Tk.Good (growL (L.take 60) (byteL 256)) := growL_good _ _ Tk.Good.begin_
theorem some_tab (L : List Int) (C : List S165) (J : List S108) (X : List S93) : tabOf (someS L C J X) = (growL (L.take 60) (byteL 256), (growL (L.take 60) (byteL 256)).length - 256, 0) := good_tab (some_good L)
theorem some_ok (L : List Int) (C : List S165) (J : List S108) (X : List S93) : VOk (someS L C J X) := by
  have hG := some_good L
  have hT := some_tab L C J X
  obtain ⟨hx0, hx1⟩ := someX_ok (X.take 6) 0 [] rfl (fun _ h => nomatch h)
  have hgx : ∀ x ∈ someX (X.take 6) 0 [], Mk.goodB x = true := newF_good _ _ _ hx0
  have hml : (mL (growL (L.take 60) (byteL 256))).length = (growL (L.take 60) (byteL 256)).length - 256 := by unfold mL; rw [List.length_map, List.length_drop]
  refine ⟨⟨?_, ?_, ?_, ?_, ?_, ?_, ?_, ?_⟩, by rw [hT], hx0, fun x hx => ?_⟩
  · show (mL (growL (L.take 60) (byteL 256))).length ≤ 744
    rw [hml]; have := hG.many.2; omega
  · show (someX (X.take 6) 0 []).length ≤ 32
    have h1 := someX_take X (X.take 6) 0 []
    rw [List.length_take] at h1
    simp only [List.length_nil] at h1
    omega
  · have := List.length_filter_le okCb (C.take 8)
    rw [List.length_take] at this
    show ((C.take 8).filter okCb).length ≤ 64
    omega
  · have := List.length_filter_le okJb (J.take 8)
    rw [List.length_take] at this
    show ((J.take 8).filter okJb).length ≤ 64
    omega
  · intro x hx
    have hx : x ∈ mL (growL (L.take 60) (byteL 256)) := hx
    unfold mL at hx
    obtain ⟨e, he, rfl⟩ := List.mem_map.1 hx
    obtain ⟨j, hj, rfl⟩ := List.getElem_of_mem he
    rw [List.getElem_drop]
    rw [List.length_drop] at hj
    obtain ⟨p1, p2, p3, p4, p5⟩ := hG.par (256 + j) (by omega) (by omega)
    have := hG.many.2
    refine ⟨⟨p1, ?_⟩, p3, ?_⟩ <;> (simp only; omega)
  · intro x hx
    have h := Mk.goodB_spec (hgx x hx)
    exact ⟨⟨h.1, h.2.1⟩, h.2.2⟩
  · intro x hx
    have h := (List.mem_filter.1 (show x ∈ (C.take 8).filter okCb from hx)).2
    unfold okCb at h
    have h' := of_decide_eq_true h
    exact h'
  · intro x hx
    have h := (List.mem_filter.1 (show x ∈ (J.take 8).filter okJb from hx)).2
    unfold okJb at h
    have h' := of_decide_eq_true h
    exact h'
  · rw [hT]
    have h1 := hx1 x hx
    have h2 := hG.many.2
    show ((growL (L.take 60) (byteL 256)).length : Int) ≤ x.f0
    omega
end Go.Proofs.YtkffhgiiejbnaaaGreat.Rt
