import Derived.Test.YtkffhgiiejbnaaaGreatZChainG
import Derived.Test.YtkffhgiiejbnaaaGreatZTokD
set_option maxHeartbeats 400000
set_option linter.unusedVariables false
set_option linter.unusedSimpArgs false
set_option linter.unnecessarySimpa false
namespace Go.Proofs.YtkffhgiiejbnaaaGreat.Ch
open Go.RowKit YtkffhgiiejbnaaaGreatW.PrintWords YtkffhgiiejbnaaaGreatW.PrintLast YtkffhgiiejbnaaaGreatW.PrintMore Aid Mp Hp Hq Tk
def rules (E : List Ent) : List (Int × Int) := (E.drop 256).map (fun x => (x.f1, x.f2))
def prE (E : List Ent) (a b : Int) : Option Int := (pairP E a b).map (fun i : Nat => (i : Int))
theorem older_from {E : List Ent} (hG : Tk.Good E) : ∀ (d i : Nat), 256 ≤ i → E.length - i = d → Older (i : Int) ((E.drop i).map (fun x => (x.f1, x.f2)))
 | 0, i, h1, h2 => by rw [List.drop_eq_nil_of_le (by omega)]; trivial
 | d + 1, i, h1, h2 => by
  have hlt : i < E.length := by omega
  rw [List.drop_eq_getElem_cons hlt]
  obtain ⟨_, p2, _, p4, _⟩ := hG.par i hlt h1
  have := older_from hG d (i + 1) (by omega) (by omega)
  exact ⟨⟨p2, p4⟩, by rw [show (i : Int) + 1 = ((i + 1 : Nat) : Int) from by omega]; exact this⟩
theorem rules_older {E : List Ent} (hG : Tk.Good E) : Older 256 (rules E) := older_from hG _ 256 (Nat.le_refl _) rfl
theorem rules_at {E : List Ent} {k : Nat} {p q : Int} (h : (rules E)[k]? = some (p, q)) : ∃ hl : 256 + k < E.length, (E[256 + k]).f1 = p ∧ (E[256 + k]).f2 = q := by
 unfold rules at h
 rw [List.getElem?_map, List.getElem?_drop] at h
 obtain ⟨x, hx, he⟩ := Option.map_eq_some_iff.1 h
 obtain ⟨hl, hx⟩ := List.getElem?_eq_some_iff.1 hx
 injection he with h1 h2
 exact ⟨hl, by rw [hx]; exact h1, by rw [hx]; exact h2⟩
theorem rules_pr {E : List Ent} (hG : Tk.Good E) (k : Nat) (p q : Int) (h : (rules E)[k]? = some (p, q)) : prE E p q = some (256 + (k : Int)) := by
 obtain ⟨hl, h1, h2⟩ := rules_at h
 have := hG.pair_at hl (by omega)
 rw [h1, h2] at this
 unfold prE
 rw [this]
 simp
theorem pr_rules {E : List Ent} {a b r : Int} (h : prE E a b = some r) : ∃ k : Nat, r = 256 + (k : Int) ∧ (rules E)[k]? = some (a, b) ∧ 256 + k < E.length := by
 unfold prE at h
 obtain ⟨i, hi, rfl⟩ := Option.map_eq_some_iff.1 h
 obtain ⟨hl, h256, h1, h2⟩ := pairP_some hi
 refine ⟨i - 256, by omega, ?_, by omega⟩
 unfold rules
 rw [List.getElem?_map, List.getElem?_drop, show 256 + (i - 256) = i from by omega, List.getElem?_eq_getElem hl]
 show some ((E[i]).f1, (E[i]).f2) = _
 rw [h1, h2]
def AllOk (L : List Nd) : Prop := ∀ (k : Nat) (n : Nd), L[k]? = some n → (n.next = -1 ∨ ∃ j : Nat, j < L.length ∧ n.next = (j : Int)) ∧ (n.ahead = -1 ∨ ∃ j : Nat, j < L.length ∧ n.ahead = (j : Int))
theorem AllOk.goes {L : List Nd} (h : AllOk L) {k : Nat} {n : Nd} (hn : L[k]? = some n) : Goes L n := by
 rcases (h k n hn).1 with h1 | ⟨j, h1, h2⟩
 ·exact .inl h1
 ·exact .inr ⟨j, _, h2, List.getElem?_eq_getElem h1⟩
theorem AllOk.nodes (s : ByteArray) : AllOk (nodesF s) := by
 intro k n hn
 have hlt : k < s.size := by rcases Nat.lt_or_ge k s.size with h | h; exact h; rw [List.getElem?_eq_none (by rw [nodesF_len]; omega)] at hn; cases hn
 rw [nodesF_at s hlt] at hn
 injection hn with hn
 subst hn
 rw [nodesF_len]
 refine ⟨?_, ?_⟩
 ·by_cases e : k + 1 = s.size
  ·exact .inl (by show (if k + 1 = s.size then (-1 : Int) else (k : Int) + 1) = _; rw [if_pos e])
  ·exact .inr ⟨k + 1, by omega, by show (if k + 1 = s.size then (-1 : Int) else (k : Int) + 1) = _; rw [if_neg e]; omega⟩
 ·by_cases e : k = 0
  ·exact .inl (by show (k : Int) - 1 = -1; omega)
  ·exact .inr ⟨k - 1, by omega, by show (k : Int) - 1 = _; omega⟩
theorem AllOk.join {L : List Nd} (h : AllOk L) {i j : Nat} {after id : Int} (hi : i < L.length) (ha : after = -1 ∨ ∃ k : Nat, k < L.length ∧ after = (k : Int)) : AllOk (joinL L i j after id) := by
 have hmod : ∀ (L : List Nd) (p : Nat) (f : Nd → Nd), AllOk L → (∀ n, (n.next = -1 ∨ ∃ j : Nat, j < L.length ∧ n.next = (j : Int)) → (n.ahead = -1 ∨ ∃ j : Nat, j < L.length ∧ n.ahead = (j : Int)) → ((f n).next = -1 ∨ ∃ j : Nat, j < L.length ∧ (f n).next = (j : Int)) ∧ ((f n).ahead = -1 ∨ ∃ j : Nat, j < L.length ∧ (f n).ahead = (j : Int))) → AllOk (L.modify p f) := by
  intro L p f hL hf k n hn
  rw [List.length_modify]
  by_cases e : k = p
  ·subst e
   cases hk : L[k]? with
   | none => rw [List.getElem?_modify] at hn; simp [hk] at hn
   | some x =>
    rw [mod_eq hk] at hn
    injection hn with hn
    subst hn
    exact hf x (hL k x hk).1 (hL k x hk).2
  ·rw [mod_ne e] at hn
   exact hL k n hn
 have h1 := hmod L j (fun n => ⟨-2, n.ahead, n.next⟩) h (fun n a b => ⟨a, b⟩)
 have h2 := hmod _ i (fun n => ⟨id, n.ahead, after⟩) h1 (fun n a b => ⟨by rw [List.length_modify]; exact ha, b⟩)
 unfold joinL
 simp only
 split
 ·exact h2
 ·exact hmod _ _ (fun n => ⟨n.id, (i : Int), n.next⟩) h2 (fun n a b => ⟨a, .inr ⟨i, by rw [List.length_modify, List.length_modify]; exact hi, rfl⟩⟩)
def QH (H : List (Th Wx)) : Wt → Prop := fun e => ∃ x ∈ H, x.r = e.rank ∧ x.p = (e.place : Int) ∧ x.x.a = e.a ∧ x.x.b = e.b
structure RunInv (E : List Ent) (N : Nat) (R : List Int) (L : List Nd) (ns : List (Nat × Int)) (B : Nat) (H : List (Th Wx)) : Prop where
 chain : ChainIs L ns
 good : AllOk L
 comp : Complete (prE E) ns (QH H)
 ok : ∀ x ∈ H, ∃ k : Nat, x.p = (k : Int) ∧ x.x.f = (k : Int) ∧ k < L.length ∧ 0 ≤ x.x.a ∧ prE E x.x.a x.x.b = some x.r
 res : encR (rules E) 256 (ids ns) = R
 bB : B + 2 * ns.length ≤ 3 * N
 bH : H.length + 2 * ns.length ≤ 3 * N
theorem RunInv.stop {E : List Ent} {N : Nat} {R : List Int} {L : List Nd} {ns : List (Nat × Int)} {B : Nat} (hG : Tk.Good E) (h : RunInv E N R L ns B []) : ids ns = R := by
 rw [← h.res]
 exact (enc_done (rules_pr hG) h.comp (fun e ⟨x, hx, _⟩ => by cases hx)).symm
theorem qh_rest {H H2 : List (Th Wx)} {x : Th Wx} {k : Nat} (hp : H.Perm (x :: H2)) (hk : x.p = (k : Int)) : ∀ y, QH H y → y ≠ ⟨x.r, k, x.x.a, x.x.b⟩ → QH H2 y := by
 rintro ⟨yr, yp, ya, yb⟩ ⟨z, hz, h1, h2, h3, h4⟩ hne
 simp only at h1 h2 h3 h4
 rcases List.mem_cons.1 (hp.mem_iff.1 hz) with e | hz
 ·subst e
  exact absurd (by rw [← h1, ← h3, ← h4]; congr 1; omega) hne
 ·exact ⟨z, hz, h1, h2, h3, h4⟩
theorem RunInv.stale {E : List Ent} {N : Nat} {R : List Int} {L : List Nd} {ns : List (Nat × Int)} {B : Nat} {H H2 : List (Th Wx)} {x : Th Wx} {k : Nat} (h : RunInv E N R L ns B H) (hp : H.Perm (x :: H2)) (hk : x.p = (k : Int)) (hst : staleB L k x.x.a x.x.b = true) : RunInv E N R L ns B H2 :=
 ⟨h.chain, h.good, complete_stale (e := ⟨x.r, k, x.x.a, x.x.b⟩) h.comp (qh_rest hp hk) (stale_yes h.chain hst), fun y hy => h.ok y (hp.mem_iff.2 (List.mem_cons_of_mem _ hy)), h.res, h.bB, by have := hp.length_eq; have := h.bH; simp only [List.length_cons] at *; omega⟩
end Go.Proofs.YtkffhgiiejbnaaaGreat.Ch
namespace Go.Proofs.YtkffhgiiejbnaaaGreat.Ch
open Go.RowKit YtkffhgiiejbnaaaGreatW.PrintWords YtkffhgiiejbnaaaGreatW.PrintLast YtkffhgiiejbnaaaGreatW.PrintMore Aid Mp Hp Hq Tk
theorem lt_of {α : Type} {L : List α} {i : Nat} {x : α} (h : L[i]? = some x) : i < L.length := by rcases Nat.lt_or_ge i L.length with g | g; exact g; rw [List.getElem?_eq_none g] at h; cases h
theorem AskH.old {o : Option (Int × Int × Int)} {i : Int} {H H' : List (Th Wx)} (h : AskH o i H H') : ∀ x ∈ H, x ∈ H' := by
 cases o with
 | none => have : H' = H := h; rw [this]; exact fun x hx => hx
 | some y => obtain ⟨r, a, b⟩ := y; obtain ⟨t, ht⟩ := h; rw [ht]; exact fun x hx => List.mem_cons_of_mem _ hx
theorem AskH.new {r a b : Int} {i : Int} {H H' : List (Th Wx)} (h : AskH (some (r, a, b)) i H H') : ∃ t, (⟨r, i, t, ⟨i, a, b⟩⟩ : Th Wx) ∈ H' := by
 obtain ⟨t, ht⟩ := h; rw [ht]; exact ⟨t, List.mem_cons_self ..⟩
theorem AskH.mem {o : Option (Int × Int × Int)} {i : Int} {H H' : List (Th Wx)} (h : AskH o i H H') : ∀ x ∈ H', x ∈ H ∨ ∃ r a b t, o = some (r, a, b) ∧ x = ⟨r, i, t, ⟨i, a, b⟩⟩ := by
 cases o with
 | none => have : H' = H := h; rw [this]; exact fun x hx => .inl hx
 | some y =>
  obtain ⟨r, a, b⟩ := y; obtain ⟨t, ht⟩ := h; rw [ht]
  intro x hx
  rcases List.mem_cons.1 hx with e | hx
  ·exact .inr ⟨r, a, b, t, rfl, e⟩
  ·exact .inl hx
theorem ask_pr {E : List Ent} {L : List Nd} {i j : Nat} {n m : Nd} (hi : L[i]? = some n) (hn : n.next = (j : Int)) (hj : L[j]? = some m) {r : Int} (hp : prE E n.id m.id = some r) : askF E (E.length : Int) L (i : Int) = some (r, n.id, m.id) := by
 rw [ask_two hi hn hj]
 unfold prE at hp
 obtain ⟨k, hk, rfl⟩ := Option.map_eq_some_iff.1 hp
 rw [hk]
 obtain ⟨hl, _⟩ := pairP_some hk
 simp only
 rw [if_pos (by omega)]
theorem ask_ok {E : List Ent} {lim : Int} {L : List Nd} {i : Int} {r a b : Int} (h : askF E lim L i = some (r, a, b)) : ∃ n m, L[i.toNat]? = some n ∧ n.id = a ∧ i ≠ -1 ∧ L[n.next.toNat]? = some m ∧ m.id = b ∧ n.next ≠ -1 ∧ prE E a b = some r := by
 unfold askF at h
 by_cases h1 : i = -1
 ·rw [if_pos h1] at h; cases h
 ·rw [if_neg h1] at h
  cases hn : L[i.toNat]? with
  | none => rw [hn] at h; cases h
  | some n =>
   rw [hn] at h
   simp only at h
   by_cases h2 : n.next = -1
   ·rw [if_pos h2] at h; cases h
   ·rw [if_neg h2] at h
    cases hm : L[n.next.toNat]? with
    | none => rw [hm] at h; cases h
    | some m =>
     rw [hm] at h
     simp only at h
     cases hp : pairP E n.id m.id with
     | none => rw [hp] at h; cases h
     | some k =>
      rw [hp] at h
      simp only at h
      by_cases h3 : (k : Int) < lim
      ·rw [if_pos h3] at h
       injection h with h; injection h with h4 h; injection h with h5 h6
       subst h5; subst h6
       exact ⟨n, m, rfl, rfl, h1, hm, rfl, h2, by unfold prE; rw [hp]; simp [h4]⟩
      ·rw [if_neg h3] at h; cases h
structure JoinPre (E : List Ent) (L : List Nd) (k : Nat) (id : Int) (n : Nd) (j : Nat) (m : Nd) (after : Int) : Prop where
 ne : k ≠ j
 hk : L[k]? = some n
 hn : n.next = (j : Int)
 hj : L[j]? = some m
 hm : m.next = after
 ha : after = -1 ∨ ∃ (p : Nat) (x : Nd), after = (p : Int) ∧ p ≠ k ∧ p ≠ j ∧ L[p]? = some x
 hI : (joinL L k j after id)[k]? = some ⟨id, n.ahead, after⟩
 good : AllOk (joinL L k j after id)
theorem JoinPre.ahead {E : List Ent} {L : List Nd} {k : Nat} {id : Int} {n : Nd} {j : Nat} {m : Nd} {after : Int} (h : JoinPre E L k id n j m after) : n.ahead = -1 ∨ ∃ (k0 : Nat) (x : Nd), n.ahead = (k0 : Int) ∧ (joinL L k j after id)[k0]? = some x ∧ Goes (joinL L k j after id) x := by
 rcases (h.good k _ h.hI).2 with h1 | ⟨p, h1, h2⟩
 ·exact .inl h1
 ·exact .inr ⟨p, _, h2, List.getElem?_eq_getElem h1, h.good.goes (List.getElem?_eq_getElem h1)⟩
theorem RunInv.join {E : List Ent} {N : Nat} {R : List Int} {L : List Nd} {ns : List (Nat × Int)} {B : Nat} {H H2 : List (Th Wx)} {x : Th Wx} {k : Nat} (hG : Tk.Good E) (h : RunInv E N R L ns B H) (hp : H.Perm (x :: H2)) (hle : ∀ y ∈ H, Hq.Le x y) (hk : x.p = (k : Int)) (hst : staleB L k x.x.a x.x.b = false) :
  ∃ n j m after, JoinPre E L k x.r n j m after ∧ ∀ H1 H3, AskH (askF E (E.length : Int) (joinL L k j after x.r) n.ahead) n.ahead H2 H1 → AskH (askF E (E.length : Int) (joinL L k j after x.r) (k : Int)) (k : Int) H1 H3 → ∃ ns', RunInv E N R (joinL L k j after x.r) ns' (B + 2) H3 ∧ ns'.length + 1 = ns.length := by
 obtain ⟨k', hk', hkf, hkl, ha0, hpr⟩ := h.ok x (hp.mem_iff.2 (List.mem_cons_self ..))
 have ek : k' = k := by omega
 subst ek
 obtain ⟨r, hr, hrs, hrl⟩ := pr_rules hpr
 obtain ⟨u, j, v, e⟩ := stale_no h.chain ha0 hst
 subst e
 have hs := h.chain.sorted
 have hkj : k' < j := (Sorted.right (u := u) hs).1
 obtain ⟨q, g1, g2, g3, g4⟩ := Links.at_ h.chain.links
 obtain ⟨q', g5, g6, _, _⟩ := Links.at_ (u := u ++ [(k', x.x.a)]) (i := j) (a := x.x.b) (v := v) (p := -1) (by simpa using h.chain.links)
 have hnxt : nxt ((j, x.x.b) :: v) = (j : Int) := rfl
 rw [hnxt] at g1
 have hid : 0 ≤ x.r := by omega
 have hcj := h.chain.join (id := x.r) hid
 have hvk : nxt v ≠ (k' : Int) := by
  cases v with
  | nil => show (-1 : Int) ≠ _; omega
  | cons y v =>
   have := Sorted.lt (Sorted.right (u := u) hs) (y := y) (by simp)
   show (y.1 : Int) ≠ _; simp only at this; omega
 have hI := joinL_i (id := x.r) g1 (Nat.ne_of_lt hkj) hvk (nxt_ok v)
 have hafter : nxt v = -1 ∨ ∃ (p : Nat) (z : Nd), nxt v = (p : Int) ∧ p ≠ k' ∧ p ≠ j ∧ L[p]? = some z := by
  cases v with
  | nil => exact .inl rfl
  | cons y v =>
   obtain ⟨q2, g7, _⟩ := Links.at_ (u := u ++ [(k', x.x.a), (j, x.x.b)]) (i := y.1) (a := y.2) (v := v) (p := -1) (by simpa using h.chain.links)
   have h1 := Sorted.lt (Sorted.right (u := u) hs) (y := y) (by simp)
   have h2 := Sorted.lt (Sorted.right (u := u) hs).2 (y := y) (by simp)
   simp only at h1 h2
   exact .inr ⟨y.1, _, rfl, by omega, by omega, g7⟩
 have hgood : AllOk (joinL L k' j (nxt v) x.r) := h.good.join hkl (by
  rcases hafter with h1 | ⟨p, z, h1, _, _, h2⟩
  ·exact .inl h1
  ·exact .inr ⟨p, lt_of h2, h1⟩)
 refine ⟨_, j, _, nxt v, ⟨Nat.ne_of_lt hkj, g1, rfl, g5, rfl, hafter, hI, hgood⟩, fun H1 H3 hA1 hA3 => ⟨u ++ (k', x.r) :: v, ⟨hcj, hgood, ?_, ?_, ?_, ?_, ?_⟩, by simp only [List.length_append, List.length_cons]; omega⟩⟩
 ·
  refine complete_join (e := ⟨x.r, k', x.x.a, x.x.b⟩) (Q := QH H) rfl (fun y hy hne => ?_) (fun y v0 hv id2 hp2 => ?_) u hs h.comp (fun u0 p hu id2 hp2 => ?_)
  ·obtain ⟨z, hz, hz2⟩ := qh_rest hp hk' y hy hne
   exact ⟨z, hA3.old z (hA1.old z hz), hz2⟩
  ·subst hv
   obtain ⟨q2, g7, _⟩ := Links.at_ (u := u ++ [(k', x.r)]) (i := y.1) (a := y.2) (v := v0) (p := -1) (by simpa using hcj.links)
   have hask := ask_pr hI (show nxt (y :: v0) = (y.1 : Int) from rfl) g7 hp2
   rw [hask] at hA3
   obtain ⟨t, ht⟩ := hA3.new
   exact ⟨_, ht, rfl, rfl, rfl, rfl⟩
  ·subst hu
   obtain ⟨q2, g7, _⟩ := Links.at_ (u := u0) (i := p.1) (a := p.2) (v := (k', x.r) :: v) (p := -1) (by simpa using hcj.links)
   have hq := g4 u0 p rfl
   have hask := ask_pr g7 (show nxt ((k', x.r) :: v) = (k' : Int) from rfl) hI hp2
   simp only at hA1
   rw [hq, hask] at hA1
   obtain ⟨t, ht⟩ := hA1.new
   exact ⟨_, hA3.old _ ht, rfl, rfl, rfl, rfl⟩
 ·
  intro y hy
  rcases hA3.mem y hy with hy | ⟨r2, a2, b2, t, ho, hy⟩
  ·rcases hA1.mem y hy with hy | ⟨r2, a2, b2, t, ho, hy⟩
   ·obtain ⟨k2, f1, f2, f3, f4, f5⟩ := h.ok y (hp.mem_iff.2 (List.mem_cons_of_mem _ hy))
    exact ⟨k2, f1, f2, by rw [joinL_len]; exact f3, f4, f5⟩
   ·subst hy
    obtain ⟨n2, m2, f1, f2, f3, f4, f5, f6, f7⟩ := ask_ok ho
    rcases List.eq_nil_or_concat u with hu | ⟨u0, p, hu⟩
    ·exact absurd (g3 hu) f3
    ·rw [List.concat_eq_append] at hu
     have hq := g4 u0 p hu
     subst hu
     obtain ⟨q2, g7, g8, _⟩ := Links.at_ (u := u0) (i := p.1) (a := p.2) (v := (k', x.r) :: v) (p := -1) (by simpa using hcj.links)
     refine ⟨p.1, hq, hq, lt_of g7, ?_, f7⟩
     simp only at f1
     rw [hq, Int.toNat_natCast, g7] at f1
     injection f1 with f1
     rw [← f2, ← f1]
     exact g8
  ·subst hy
   obtain ⟨n2, m2, f1, f2, f3, f4, f5, f6, f7⟩ := ask_ok ho
   refine ⟨k', rfl, rfl, lt_of hI, ?_, f7⟩
   rw [Int.toNat_natCast, hI] at f1
   injection f1 with f1
   rw [← f2, ← f1]
   exact hid
 ·
  rw [← h.res, hr]
  refine (enc_join (Q := QH H) (rules_older hG) (rules_pr hG) hs h.comp hrs (fun y hy => ?_)).symm
  obtain ⟨z, hz, h1, h2, h3, h4⟩ := hy
  have := (le_iff x z).1 (hle z hz)
  rw [← h1, ← hr]
  simp only
  omega
 ·have := h.bB; simp only [List.length_append, List.length_cons] at *; omega
 ·have h1 := h.bH; have h2 := hp.length_eq; have h3 := hA1.len; have h4 := hA3.len; simp only [List.length_append, List.length_cons] at *; omega
end Go.Proofs.YtkffhgiiejbnaaaGreat.Ch
