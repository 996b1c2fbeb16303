import Derived.Test.YtkffhgiiejbnaaaGreatQChainH
set_option linter.unusedVariables false
set_option linter.unusedSimpArgs false
set_option linter.unnecessarySimpa false
namespace Go.Proofs.YtkffhgiiejbnaaaGreat.Ch
open Go.RowKit Go.Proofs.YtkffhgiiejbnaaaGreatW.PrintWords Go.Proofs.YtkffhgiiejbnaaaGreatW.PrintLast Go.Proofs.YtkffhgiiejbnaaaGreatW.PrintMore Go.Proofs.YtkffhgiiejbnaaaGreat.Aid Go.Proofs.YtkffhgiiejbnaaaGreat.Mp Go.Proofs.YtkffhgiiejbnaaaGreat.Hp Go.Proofs.YtkffhgiiejbnaaaGreat.Hq Go.Proofs.YtkffhgiiejbnaaaGreat.Tk
set_option linter.unusedVariables false
set_option linter.unusedSimpArgs false
set_option maxHeartbeats 400000
theorem lt_of {α : Type} {L : List α} {i : Nat} {x : α} (h : L[i]? = some x) : i < L.length := by rcases Nat.lt_or_ge i L.length with g | g; exact g; rw [List.getElem?_eq_none g] at h; cases h
theorem AskH.old {o : Option (Int × Int × Int)} {i : Int} {H H' : List (Th Wx)} (h : AskH o i H H') : ∀ x ∈ H, x ∈ H' := by
  cases o with
  | none => have : H' = H := h; rw [this]; exact fun x hx => hx
  | some y => obtain ⟨r, a, b⟩ := y; obtain ⟨t, ht⟩ := h; rw [ht]; exact fun x hx => List.mem_cons_of_mem _ hx
theorem AskH.new {r a b : Int} {i : Int} {H H' : List (Th Wx)} (h : AskH (some (r, a, b)) i H H') : ∃ t, (⟨r, i, t, ⟨i, a, b⟩⟩ : Th Wx) ∈ H' := by
  obtain ⟨t, ht⟩ := h; rw [ht]; exact ⟨t, List.mem_cons_self ..⟩
theorem AskH.mem {o : Option (Int × Int × Int)} {i : Int} {H H' : List (Th Wx)} (h : AskH o i H H') : ∀ x ∈ H', x ∈ H ∨ ∃ r a b t, o = some (r, a, b) ∧ x = ⟨r, i, t, ⟨i, a, b⟩⟩ := by
  cases o with
  | none => have : H' = H := h; rw [this]; exact fun x hx => .inl hx
  | some y =>
    obtain ⟨r, a, b⟩ := y; obtain ⟨t, ht⟩ := h; rw [ht]
    intro x hx
    rcases List.mem_cons.1 hx with e | hx
    · exact .inr ⟨r, a, b, t, rfl, e⟩
    · exact .inl hx
theorem ask_pr {E : List Ent} {L : List Nd} {i j : Nat} {n m : Nd} (hi : L[i]? = some n) (hn : n.next = (j : Int)) (hj : L[j]? = some m) {r : Int} (hp : prE E n.id m.id = some r) : askF E (E.length : Int) L (i : Int) = some (r, n.id, m.id) := by
  rw [ask_two hi hn hj]
  unfold prE at hp
  obtain ⟨k, hk, rfl⟩ := Option.map_eq_some_iff.1 hp
  rw [hk]
  obtain ⟨hl, _⟩ := pairP_some hk
  simp only
  rw [if_pos (by omega)]
theorem ask_ok {E : List Ent} {lim : Int} {L : List Nd} {i : Int} {r a b : Int} (h : askF E lim L i = some (r, a, b)) : ∃ n m, L[i.toNat]? = some n ∧ n.id = a ∧ i ≠ -1 ∧ L[n.next.toNat]? = some m ∧ m.id = b ∧ n.next ≠ -1 ∧ prE E a b = some r := by
  unfold askF at h
  by_cases h1 : i = -1
  · rw [if_pos h1] at h; cases h
  · rw [if_neg h1] at h
    cases hn : L[i.toNat]? with
    | none => rw [hn] at h; cases h
    | some n =>
      rw [hn] at h
      simp only at h
      by_cases h2 : n.next = -1
      · rw [if_pos h2] at h; cases h
      · rw [if_neg h2] at h
        cases hm : L[n.next.toNat]? with
        | none => rw [hm] at h; cases h
        | some m =>
          rw [hm] at h
          simp only at h
          cases hp : pairP E n.id m.id with
          | none => rw [hp] at h; cases h
          | some k =>
            rw [hp] at h
            simp only at h
            by_cases h3 : (k : Int) < lim
            · rw [if_pos h3] at h
              injection h with h; injection h with h4 h; injection h with h5 h6
              subst h5; subst h6
              exact ⟨n, m, rfl, rfl, h1, hm, rfl, h2, by unfold prE; rw [hp]; simp [h4]⟩
            · rw [if_neg h3] at h; cases h
structure JoinPre (E : List Ent) (L : List Nd) (k : Nat) (id : Int) (n : Nd) (j : Nat) (m : Nd) (after : Int) : Prop where
  ne : k ≠ j
  hk : L[k]? = some n
  hn : n.next = (j : Int)
  hj : L[j]? = some m
  hm : m.next = after
  ha : after = -1 ∨ ∃ (p : Nat) (x : Nd), after = (p : Int) ∧ p ≠ k ∧ p ≠ j ∧ L[p]? = some x
  hI : (joinL L k j after id)[k]? = some ⟨id, n.ahead, after⟩
  good : AllOk (joinL L k j after id)
theorem JoinPre.ahead {E : List Ent} {L : List Nd} {k : Nat} {id : Int} {n : Nd} {j : Nat} {m : Nd} {after : Int} (h : JoinPre E L k id n j m after) : n.ahead = -1 ∨ ∃ (k0 : Nat) (x : Nd), n.ahead = (k0 : Int) ∧ (joinL L k j after id)[k0]? = some x ∧ Goes (joinL L k j after id) x := by
  rcases (h.good k _ h.hI).2 with h1 | ⟨p, h1, h2⟩
  · exact .inl h1
  · exact .inr ⟨p, _, h2, List.getElem?_eq_getElem h1, h.good.goes (List.getElem?_eq_getElem h1)⟩
theorem RunInv.join {E : List Ent} {N : Nat} {R : List Int} {L : List Nd} {ns : List (Nat × Int)} {B : Nat} {H H2 : List (Th Wx)} {x : Th Wx} {k : Nat} (hG : Tk.Good E) (h : RunInv E N R L ns B H) (hp : H.Perm (x :: H2)) (hle : ∀ y ∈ H, Hq.Le x y) (hk : x.p = (k : Int)) (hst : staleB L k x.x.a x.x.b = false) :
    ∃ n j m after, JoinPre E L k x.r n j m after ∧ ∀ H1 H3, AskH (askF E (E.length : Int) (joinL L k j after x.r) n.ahead) n.ahead H2 H1 → AskH (askF E (E.length : Int) (joinL L k j after x.r) (k : Int)) (k : Int) H1 H3 → ∃ ns', RunInv E N R (joinL L k j after x.r) ns' (B + 2) H3 ∧ ns'.length + 1 = ns.length := by
  obtain ⟨k', hk', hkf, hkl, ha0, hpr⟩ := h.ok x (hp.mem_iff.2 (List.mem_cons_self ..))
  have ek : k' = k := by omega
  subst ek
  obtain ⟨r, hr, hrs, hrl⟩ := pr_rules hpr
  obtain ⟨u, j, v, e⟩ := stale_no h.chain ha0 hst
  subst e
  have hs := h.chain.sorted
  have hkj : k' < j := (Sorted.right (u := u) hs).1
  obtain ⟨q, g1, g2, g3, g4⟩ := Links.at_ h.chain.links
  obtain ⟨q', g5, g6, _, _⟩ := Links.at_ (u := u ++ [(k', x.x.a)]) (i := j) (a := x.x.b) (v := v) (p := -1) (by simpa using h.chain.links)
  have hnxt : nxt ((j, x.x.b) :: v) = (j : Int) := rfl
  rw [hnxt] at g1
  have hid : 0 ≤ x.r := by omega
  have hcj := h.chain.join (id := x.r) hid
  have hvk : nxt v ≠ (k' : Int) := by
    cases v with
    | nil => show (-1 : Int) ≠ _; omega
    | cons y v =>
      have := Sorted.lt (Sorted.right (u := u) hs) (y := y) (by simp)
      show (y.1 : Int) ≠ _; simp only at this; omega
  have hI := joinL_i (id := x.r) g1 (Nat.ne_of_lt hkj) hvk (nxt_ok v)
  have hafter : nxt v = -1 ∨ ∃ (p : Nat) (z : Nd), nxt v = (p : Int) ∧ p ≠ k' ∧ p ≠ j ∧ L[p]? = some z := by
    cases v with
    | nil => exact .inl rfl
    | cons y v =>
      obtain ⟨q2, g7, _⟩ := Links.at_ (u := u ++ [(k', x.x.a), (j, x.x.b)]) (i := y.1) (a := y.2) (v := v) (p := -1) (by simpa using h.chain.links)
      have h1 := Sorted.lt (Sorted.right (u := u) hs) (y := y) (by simp)
      have h2 := Sorted.lt (Sorted.right (u := u) hs).2 (y := y) (by simp)
      simp only at h1 h2
      exact .inr ⟨y.1, _, rfl, by omega, by omega, g7⟩
  have hgood : AllOk (joinL L k' j (nxt v) x.r) := h.good.join hkl (by
    rcases hafter with h1 | ⟨p, z, h1, _, _, h2⟩
    · exact .inl h1
    · exact .inr ⟨p, lt_of h2, h1⟩)
  refine ⟨_, j, _, nxt v, ⟨Nat.ne_of_lt hkj, g1, rfl, g5, rfl, hafter, hI, hgood⟩, fun H1 H3 hA1 hA3 => ⟨u ++ (k', x.r) :: v, ⟨hcj, hgood, ?_, ?_, ?_, ?_, ?_⟩, by simp only [List.length_append, List.length_cons]; omega⟩⟩
  ·
    refine complete_join (e := ⟨x.r, k', x.x.a, x.x.b⟩) (Q := QH H) rfl (fun y hy hne => ?_) (fun y v0 hv id2 hp2 => ?_) u hs h.comp (fun u0 p hu id2 hp2 => ?_)
    · obtain ⟨z, hz, hz2⟩ := qh_rest hp hk' y hy hne
      exact ⟨z, hA3.old z (hA1.old z hz), hz2⟩
    · subst hv
      obtain ⟨q2, g7, _⟩ := Links.at_ (u := u ++ [(k', x.r)]) (i := y.1) (a := y.2) (v := v0) (p := -1) (by simpa using hcj.links)
      have hask := ask_pr hI (show nxt (y :: v0) = (y.1 : Int) from rfl) g7 hp2
      rw [hask] at hA3
      obtain ⟨t, ht⟩ := hA3.new
      exact ⟨_, ht, rfl, rfl, rfl, rfl⟩
    · subst hu
      obtain ⟨q2, g7, _⟩ := Links.at_ (u := u0) (i := p.1) (a := p.2) (v := (k', x.r) :: v) (p := -1) (by simpa using hcj.links)
      have hq := g4 u0 p rfl
      have hask := ask_pr g7 (show nxt ((k', x.r) :: v) = (k' : Int) from rfl) hI hp2
      simp only at hA1
      rw [hq, hask] at hA1
      obtain ⟨t, ht⟩ := hA1.new
      exact ⟨_, hA3.old _ ht, rfl, rfl, rfl, rfl⟩
  ·
    intro y hy
    rcases hA3.mem y hy with hy | ⟨r2, a2, b2, t, ho, hy⟩
    · rcases hA1.mem y hy with hy | ⟨r2, a2, b2, t, ho, hy⟩
      · obtain ⟨k2, f1, f2, f3, f4, f5⟩ := h.ok y (hp.mem_iff.2 (List.mem_cons_of_mem _ hy))
        exact ⟨k2, f1, f2, by rw [joinL_len]; exact f3, f4, f5⟩
      · subst hy
        obtain ⟨n2, m2, f1, f2, f3, f4, f5, f6, f7⟩ := ask_ok ho
        rcases List.eq_nil_or_concat u with hu | ⟨u0, p, hu⟩
        · exact absurd (g3 hu) f3
        · rw [List.concat_eq_append] at hu
          have hq := g4 u0 p hu
          subst hu
          obtain ⟨q2, g7, g8, _⟩ := Links.at_ (u := u0) (i := p.1) (a := p.2) (v := (k', x.r) :: v) (p := -1) (by simpa using hcj.links)
          refine ⟨p.1, hq, hq, lt_of g7, ?_, f7⟩
          simp only at f1
          rw [hq, Int.toNat_natCast, g7] at f1
          injection f1 with f1
          rw [← f2, ← f1]
          exact g8
    · subst hy
      obtain ⟨n2, m2, f1, f2, f3, f4, f5, f6, f7⟩ := ask_ok ho
      refine ⟨k', rfl, rfl, lt_of hI, ?_, f7⟩
      rw [Int.toNat_natCast, hI] at f1
      injection f1 with f1
      rw [← f2, ← f1]
      exact hid
  ·
    rw [← h.res, hr]
    refine (enc_join (Q := QH H) (rules_older hG) (rules_pr hG) hs h.comp hrs (fun y hy => ?_)).symm
    obtain ⟨z, hz, h1, h2, h3, h4⟩ := hy
    have := (le_iff x z).1 (hle z hz)
    rw [← h1, ← hr]
    simp only
    omega
  · have := h.bB; simp only [List.length_append, List.length_cons] at *; omega
  · have h1 := h.bH; have h2 := hp.length_eq; have h3 := hA1.len; have h4 := hA3.len; simp only [List.length_append, List.length_cons] at *; omega
end Go.Proofs.YtkffhgiiejbnaaaGreat.Ch
