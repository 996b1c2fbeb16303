import Derived.Test.YtkffhgiiejbnaaaGreatQChainG
import Derived.Test.YtkffhgiiejbnaaaGreatQTokD
set_option linter.unusedVariables false
set_option linter.unusedSimpArgs false
namespace Go.Proofs.YtkffhgiiejbnaaaGreat.Ch
open Go.RowKit Go.Proofs.YtkffhgiiejbnaaaGreatW.PrintWords Go.Proofs.YtkffhgiiejbnaaaGreatW.PrintLast Go.Proofs.YtkffhgiiejbnaaaGreatW.PrintMore Go.Proofs.YtkffhgiiejbnaaaGreat.Aid Go.Proofs.YtkffhgiiejbnaaaGreat.Mp Go.Proofs.YtkffhgiiejbnaaaGreat.Hp Go.Proofs.YtkffhgiiejbnaaaGreat.Hq Go.Proofs.YtkffhgiiejbnaaaGreat.Tk
set_option linter.unusedVariables false
set_option linter.unusedSimpArgs false
set_option maxHeartbeats 400000
def rules (E : List Ent) : List (Int × Int) := (E.drop 256).map (fun x => (x.f1, x.f2))
def prE (E : List Ent) (a b : Int) : Option Int := (pairP E a b).map (fun i : Nat => (i : Int))
theorem older_from {E : List Ent} (hG : Tk.Good E) : ∀ (d i : Nat), 256 ≤ i → E.length - i = d → Older (i : Int) ((E.drop i).map (fun x => (x.f1, x.f2)))
  | 0, i, h1, h2 => by rw [List.drop_eq_nil_of_le (by omega)]; trivial
  | d + 1, i, h1, h2 => by
    have hlt : i < E.length := by omega
    rw [List.drop_eq_getElem_cons hlt]
    obtain ⟨_, p2, _, p4, _⟩ := hG.par i hlt h1
    have := older_from hG d (i + 1) (by omega) (by omega)
    exact ⟨⟨p2, p4⟩, by rw [show (i : Int) + 1 = ((i + 1 : Nat) : Int) from by omega]; exact this⟩
theorem rules_older {E : List Ent} (hG : Tk.Good E) : Older 256 (rules E) := older_from hG _ 256 (Nat.le_refl _) rfl
theorem rules_at {E : List Ent} {k : Nat} {p q : Int} (h : (rules E)[k]? = some (p, q)) : ∃ hl : 256 + k < E.length, (E[256 + k]).f1 = p ∧ (E[256 + k]).f2 = q := by
  unfold rules at h
  rw [List.getElem?_map, List.getElem?_drop] at h
  obtain ⟨x, hx, he⟩ := Option.map_eq_some_iff.1 h
  obtain ⟨hl, hx⟩ := List.getElem?_eq_some_iff.1 hx
  injection he with h1 h2
  exact ⟨hl, by rw [hx]; exact h1, by rw [hx]; exact h2⟩
theorem rules_pr {E : List Ent} (hG : Tk.Good E) (k : Nat) (p q : Int) (h : (rules E)[k]? = some (p, q)) : prE E p q = some (256 + (k : Int)) := by
  obtain ⟨hl, h1, h2⟩ := rules_at h
  have := hG.pair_at hl (by omega)
  rw [h1, h2] at this
  unfold prE
  rw [this]
  simp
theorem pr_rules {E : List Ent} {a b r : Int} (h : prE E a b = some r) : ∃ k : Nat, r = 256 + (k : Int) ∧ (rules E)[k]? = some (a, b) ∧ 256 + k < E.length := by
  unfold prE at h
  obtain ⟨i, hi, rfl⟩ := Option.map_eq_some_iff.1 h
  obtain ⟨hl, h256, h1, h2⟩ := pairP_some hi
  refine ⟨i - 256, by omega, ?_, by omega⟩
  unfold rules
  rw [List.getElem?_map, List.getElem?_drop, show 256 + (i - 256) = i from by omega, List.getElem?_eq_getElem hl]
  show some ((E[i]).f1, (E[i]).f2) = _
  rw [h1, h2]
def AllOk (L : List Nd) : Prop := ∀ (k : Nat) (n : Nd), L[k]? = some n → (n.next = -1 ∨ ∃ j : Nat, j < L.length ∧ n.next = (j : Int)) ∧ (n.ahead = -1 ∨ ∃ j : Nat, j < L.length ∧ n.ahead = (j : Int))
theorem AllOk.goes {L : List Nd} (h : AllOk L) {k : Nat} {n : Nd} (hn : L[k]? = some n) : Goes L n := by
  rcases (h k n hn).1 with h1 | ⟨j, h1, h2⟩
  · exact .inl h1
  · exact .inr ⟨j, _, h2, List.getElem?_eq_getElem h1⟩
theorem AllOk.nodes (s : ByteArray) : AllOk (nodesF s) := by
  intro k n hn
  have hlt : k < s.size := by rcases Nat.lt_or_ge k s.size with h | h; exact h; rw [List.getElem?_eq_none (by rw [nodesF_len]; omega)] at hn; cases hn
  rw [nodesF_at s hlt] at hn
  injection hn with hn
  subst hn
  rw [nodesF_len]
  refine ⟨?_, ?_⟩
  · by_cases e : k + 1 = s.size
    · exact .inl (by show (if k + 1 = s.size then (-1 : Int) else (k : Int) + 1) = _; rw [if_pos e])
    · exact .inr ⟨k + 1, by omega, by show (if k + 1 = s.size then (-1 : Int) else (k : Int) + 1) = _; rw [if_neg e]; omega⟩
  · by_cases e : k = 0
    · exact .inl (by show (k : Int) - 1 = -1; omega)
    · exact .inr ⟨k - 1, by omega, by show (k : Int) - 1 = _; omega⟩
theorem AllOk.join {L : List Nd} (h : AllOk L) {i j : Nat} {after id : Int} (hi : i < L.length) (ha : after = -1 ∨ ∃ k : Nat, k < L.length ∧ after = (k : Int)) : AllOk (joinL L i j after id) := by
  have hmod : ∀ (L : List Nd) (p : Nat) (f : Nd → Nd), AllOk L → (∀ n, (n.next = -1 ∨ ∃ j : Nat, j < L.length ∧ n.next = (j : Int)) → (n.ahead = -1 ∨ ∃ j : Nat, j < L.length ∧ n.ahead = (j : Int)) → ((f n).next = -1 ∨ ∃ j : Nat, j < L.length ∧ (f n).next = (j : Int)) ∧ ((f n).ahead = -1 ∨ ∃ j : Nat, j < L.length ∧ (f n).ahead = (j : Int))) → AllOk (L.modify p f) := by
    intro L p f hL hf k n hn
    rw [List.length_modify]
    by_cases e : k = p
    · subst e
      cases hk : L[k]? with
      | none => rw [List.getElem?_modify] at hn; simp [hk] at hn
      | some x =>
        rw [mod_eq hk] at hn
        injection hn with hn
        subst hn
        exact hf x (hL k x hk).1 (hL k x hk).2
    · rw [mod_ne e] at hn
      exact hL k n hn
  have h1 := hmod L j (fun n => ⟨-2, n.ahead, n.next⟩) h (fun n a b => ⟨a, b⟩)
  have h2 := hmod _ i (fun n => ⟨id, n.ahead, after⟩) h1 (fun n a b => ⟨by rw [List.length_modify]; exact ha, b⟩)
  unfold joinL
  simp only
  split
  · exact h2
  · exact hmod _ _ (fun n => ⟨n.id, (i : Int), n.next⟩) h2 (fun n a b => ⟨a, .inr ⟨i, by rw [List.length_modify, List.length_modify]; exact hi, rfl⟩⟩)
def QH (H : List (Th Wx)) : Wt → Prop := fun e => ∃ x ∈ H, x.r = e.rank ∧ x.p = (e.place : Int) ∧ x.x.a = e.a ∧ x.x.b = e.b
structure RunInv (E : List Ent) (N : Nat) (R : List Int) (L : List Nd) (ns : List (Nat × Int)) (B : Nat) (H : List (Th Wx)) : Prop where
  chain : ChainIs L ns
  good : AllOk L
  comp : Complete (prE E) ns (QH H)
  ok : ∀ x ∈ H, ∃ k : Nat, x.p = (k : Int) ∧ x.x.f = (k : Int) ∧ k < L.length ∧ 0 ≤ x.x.a ∧ prE E x.x.a x.x.b = some x.r
  res : encR (rules E) 256 (ids ns) = R
  bB : B + 2 * ns.length ≤ 3 * N
  bH : H.length + 2 * ns.length ≤ 3 * N
theorem RunInv.stop {E : List Ent} {N : Nat} {R : List Int} {L : List Nd} {ns : List (Nat × Int)} {B : Nat} (hG : Tk.Good E) (h : RunInv E N R L ns B []) : ids ns = R := by
  rw [← h.res]
  exact (enc_done (rules_pr hG) h.comp (fun e ⟨x, hx, _⟩ => by cases hx)).symm
theorem qh_rest {H H2 : List (Th Wx)} {x : Th Wx} {k : Nat} (hp : H.Perm (x :: H2)) (hk : x.p = (k : Int)) : ∀ y, QH H y → y ≠ ⟨x.r, k, x.x.a, x.x.b⟩ → QH H2 y := by
  rintro ⟨yr, yp, ya, yb⟩ ⟨z, hz, h1, h2, h3, h4⟩ hne
  simp only at h1 h2 h3 h4
  rcases List.mem_cons.1 (hp.mem_iff.1 hz) with e | hz
  · subst e
    exact absurd (by rw [← h1, ← h3, ← h4]; congr 1; omega) hne
  · exact ⟨z, hz, h1, h2, h3, h4⟩
theorem RunInv.stale {E : List Ent} {N : Nat} {R : List Int} {L : List Nd} {ns : List (Nat × Int)} {B : Nat} {H H2 : List (Th Wx)} {x : Th Wx} {k : Nat} (h : RunInv E N R L ns B H) (hp : H.Perm (x :: H2)) (hk : x.p = (k : Int)) (hst : staleB L k x.x.a x.x.b = true) : RunInv E N R L ns B H2 :=
  ⟨h.chain, h.good, complete_stale (e := ⟨x.r, k, x.x.a, x.x.b⟩) h.comp (qh_rest hp hk) (stale_yes h.chain hst), fun y hy => h.ok y (hp.mem_iff.2 (List.mem_cons_of_mem _ hy)), h.res, h.bB, by have := hp.length_eq; have := h.bH; simp only [List.length_cons] at *; omega⟩
end Go.Proofs.YtkffhgiiejbnaaaGreat.Ch
