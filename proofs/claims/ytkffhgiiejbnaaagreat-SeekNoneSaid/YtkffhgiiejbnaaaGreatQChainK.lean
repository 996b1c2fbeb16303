import Derived.Test.YtkffhgiiejbnaaaGreatQChainG
import Derived.Test.YtkffhgiiejbnaaaGreatQTokD
set_option maxRecDepth 100000
set_option maxHeartbeats 400000
set_option linter.unusedVariables false
set_option linter.unusedSimpArgs false
set_option linter.unnecessarySimpa false
namespace Go.Proofs.YtkffhgiiejbnaaaGreat.Ch
open Go.RowKit YtkffhgiiejbnaaaGreatW.PrintWords YtkffhgiiejbnaaaGreatW.PrintLast YtkffhgiiejbnaaaGreatW.PrintMore Aid Mp Hp Hq Tk
def rules (E : List Ent) : List (Int × Int) := (E.drop 256).map (fun x => (x.f1, x.f2))
def prE (E : List Ent) (a b : Int) : Option Int := (pairP E a b).map (fun i : Nat => (i : Int))
theorem older_from {E : List Ent} (hG : Tk.Good E) : ∀ (d i : Nat), 256 ≤ i → E.length - i = d → Older (i : Int) ((E.drop i).map (fun x => (x.f1, x.f2)))
 | 0, i, h1, h2 => by rw [List.drop_eq_nil_of_le (by omega)]; trivial
 | d + 1, i, h1, h2 => by
  have hlt : i < E.length := by omega
  rw [List.drop_eq_getElem_cons hlt]
  obtain ⟨_, p2, _, p4, _⟩ := hG.par i hlt h1
  have := older_from hG d (i + 1) (by omega) (by omega)
  exact ⟨⟨p2, p4⟩, by rw [show (i : Int) + 1 = ((i + 1 : Nat) : Int) from by omega]; exact this⟩
theorem rules_older {E : List Ent} (hG : Tk.Good E) : Older 256 (rules E) := older_from hG _ 256 (Nat.le_refl _) rfl
theorem rules_at {E : List Ent} {k : Nat} {p q : Int} (h : (rules E)[k]? = some (p, q)) : ∃ hl : 256 + k < E.length, (E[256 + k]).f1 = p ∧ (E[256 + k]).f2 = q := by
 unfold rules at h
 rw [List.getElem?_map, List.getElem?_drop] at h
 obtain ⟨x, hx, he⟩ := Option.map_eq_some_iff.1 h
 obtain ⟨hl, hx⟩ := List.getElem?_eq_some_iff.1 hx
 injection he with h1 h2
 exact ⟨hl, by rw [hx]; exact h1, by rw [hx]; exact h2⟩
theorem rules_pr {E : List Ent} (hG : Tk.Good E) (k : Nat) (p q : Int) (h : (rules E)[k]? = some (p, q)) : prE E p q = some (256 + (k : Int)) := by
 obtain ⟨hl, h1, h2⟩ := rules_at h
 have := hG.pair_at hl (by omega)
 rw [h1, h2] at this
 unfold prE
 rw [this]
 simp
theorem pr_rules {E : List Ent} {a b r : Int} (h : prE E a b = some r) : ∃ k : Nat, r = 256 + (k : Int) ∧ (rules E)[k]? = some (a, b) ∧ 256 + k < E.length := by
 unfold prE at h
 obtain ⟨i, hi, rfl⟩ := Option.map_eq_some_iff.1 h
 obtain ⟨hl, h256, h1, h2⟩ := pairP_some hi
 refine ⟨i - 256, by omega, ?_, by omega⟩
 unfold rules
 rw [List.getElem?_map, List.getElem?_drop, show 256 + (i - 256) = i from by omega, List.getElem?_eq_getElem hl]
 show some ((E[i]).f1, (E[i]).f2) = _
 rw [h1, h2]
def AllOk (L : List Nd) : Prop := ∀ (k : Nat) (n : Nd), L[k]? = some n → (n.next = -1 ∨ ∃ j : Nat, j < L.length ∧ n.next = (j : Int)) ∧ (n.ahead = -1 ∨ ∃ j : Nat, j < L.length ∧ n.ahead = (j : Int))
theorem AllOk.goes {L : List Nd} (h : AllOk L) {k : Nat} {n : Nd} (hn : L[k]? = some n) : Goes L n := by
 rcases (h k n hn).1 with h1 | ⟨j, h1, h2⟩
 ·exact .inl h1
 ·exact .inr ⟨j, _, h2, List.getElem?_eq_getElem h1⟩
theorem AllOk.nodes (s : ByteArray) : AllOk (nodesF s) := by
 intro k n hn
 have hlt : k < s.size := by rcases Nat.lt_or_ge k s.size with h | h; exact h; rw [List.getElem?_eq_none (by rw [nodesF_len]; omega)] at hn; cases hn
 rw [nodesF_at s hlt] at hn
 injection hn with hn
 subst hn
 rw [nodesF_len]
 refine ⟨?_, ?_⟩
 ·by_cases e : k + 1 = s.size
  ·exact .inl (by show (if k + 1 = s.size then (-1 : Int) else (k : Int) + 1) = _; rw [if_pos e])
  ·exact .inr ⟨k + 1, by omega, by show (if k + 1 = s.size then (-1 : Int) else (k : Int) + 1) = _; rw [if_neg e]; omega⟩
 ·by_cases e : k = 0
  ·exact .inl (by show (k : Int) - 1 = -1; omega)
  ·exact .inr ⟨k - 1, by omega, by show (k : Int) - 1 = _; omega⟩
theorem AllOk.join {L : List Nd} (h : AllOk L) {i j : Nat} {after id : Int} (hi : i < L.length) (ha : after = -1 ∨ ∃ k : Nat, k < L.length ∧ after = (k : Int)) : AllOk (joinL L i j after id) := by
 have hmod : ∀ (L : List Nd) (p : Nat) (f : Nd → Nd), AllOk L → (∀ n, (n.next = -1 ∨ ∃ j : Nat, j < L.length ∧ n.next = (j : Int)) → (n.ahead = -1 ∨ ∃ j : Nat, j < L.length ∧ n.ahead = (j : Int)) → ((f n).next = -1 ∨ ∃ j : Nat, j < L.length ∧ (f n).next = (j : Int)) ∧ ((f n).ahead = -1 ∨ ∃ j : Nat, j < L.length ∧ (f n).ahead = (j : Int))) → AllOk (L.modify p f) := by
  intro L p f hL hf k n hn
  rw [List.length_modify]
  by_cases e : k = p
  ·subst e
   cases hk : L[k]? with
   | none => rw [List.getElem?_modify] at hn; simp [hk] at hn
   | some x =>
    rw [mod_eq hk] at hn
    injection hn with hn
    subst hn
    exact hf x (hL k x hk).1 (hL k x hk).2
  ·rw [mod_ne e] at hn
   exact hL k n hn
 have h1 := hmod L j (fun n => ⟨-2, n.ahead, n.next⟩) h (fun n a b => ⟨a, b⟩)
 have h2 := hmod _ i (fun n => ⟨id, n.ahead, after⟩) h1 (fun n a b => ⟨by rw [List.length_modify]; exact ha, b⟩)
 unfold joinL
 simp only
 split
 ·exact h2
 ·exact hmod _ _ (fun n => ⟨n.id, (i : Int), n.next⟩) h2 (fun n a b => ⟨a, .inr ⟨i, by rw [List.length_modify, List.length_modify]; exact hi, rfl⟩⟩)
def QH (H : List (Th Wx)) : Wt → Prop := fun e => ∃ x ∈ H, x.r = e.rank ∧ x.p = (e.place : Int) ∧ x.x.a = e.a ∧ x.x.b = e.b
structure RunInv (E : List Ent) (N : Nat) (R : List Int) (L : List Nd) (ns : List (Nat × Int)) (B : Nat) (H : List (Th Wx)) : Prop where
 chain : ChainIs L ns
 good : AllOk L
 comp : Complete (prE E) ns (QH H)
 ok : ∀ x ∈ H, ∃ k : Nat, x.p = (k : Int) ∧ x.x.f = (k : Int) ∧ k < L.length ∧ 0 ≤ x.x.a ∧ prE E x.x.a x.x.b = some x.r
 res : encR (rules E) 256 (ids ns) = R
 bB : B + 2 * ns.length ≤ 3 * N
 bH : H.length + 2 * ns.length ≤ 3 * N
theorem RunInv.stop {E : List Ent} {N : Nat} {R : List Int} {L : List Nd} {ns : List (Nat × Int)} {B : Nat} (hG : Tk.Good E) (h : RunInv E N R L ns B []) : ids ns = R := by
 rw [← h.res]
 exact (enc_done (rules_pr hG) h.comp (fun e ⟨x, hx, _⟩ => by cases hx)).symm
theorem qh_rest {H H2 : List (Th Wx)} {x : Th Wx} {k : Nat} (hp : H.Perm (x :: H2)) (hk : x.p = (k : Int)) : ∀ y, QH H y → y ≠ ⟨x.r, k, x.x.a, x.x.b⟩ → QH H2 y := by
 rintro ⟨yr, yp, ya, yb⟩ ⟨z, hz, h1, h2, h3, h4⟩ hne
 simp only at h1 h2 h3 h4
 rcases List.mem_cons.1 (hp.mem_iff.1 hz) with e | hz
 ·subst e
  exact absurd (by rw [← h1, ← h3, ← h4]; congr 1; omega) hne
 ·exact ⟨z, hz, h1, h2, h3, h4⟩
theorem RunInv.stale {E : List Ent} {N : Nat} {R : List Int} {L : List Nd} {ns : List (Nat × Int)} {B : Nat} {H H2 : List (Th Wx)} {x : Th Wx} {k : Nat} (h : RunInv E N R L ns B H) (hp : H.Perm (x :: H2)) (hk : x.p = (k : Int)) (hst : staleB L k x.x.a x.x.b = true) : RunInv E N R L ns B H2 :=
 ⟨h.chain, h.good, complete_stale (e := ⟨x.r, k, x.x.a, x.x.b⟩) h.comp (qh_rest hp hk) (stale_yes h.chain hst), fun y hy => h.ok y (hp.mem_iff.2 (List.mem_cons_of_mem _ hy)), h.res, h.bB, by have := hp.length_eq; have := h.bH; simp only [List.length_cons] at *; omega⟩
end Go.Proofs.YtkffhgiiejbnaaaGreat.Ch
namespace Go.Proofs.YtkffhgiiejbnaaaGreat.Ch
open Go.RowKit YtkffhgiiejbnaaaGreatW.PrintWords YtkffhgiiejbnaaaGreatW.PrintLast YtkffhgiiejbnaaaGreatW.PrintMore Aid Mp Hp Hq Tk
theorem lt_of {α : Type} {L : List α} {i : Nat} {x : α} (h : L[i]? = some x) : i < L.length := by rcases Nat.lt_or_ge i L.length with g | g; exact g; rw [List.getElem?_eq_none g] at h; cases h
theorem AskH.old {o : Option (Int × Int × Int)} {i : Int} {H H' : List (Th Wx)} (h : AskH o i H H') : ∀ x ∈ H, x ∈ H' := by
 cases o with
 | none => have : H' = H := h; rw [this]; exact fun x hx => hx
 | some y => obtain ⟨r, a, b⟩ := y; obtain ⟨t, ht⟩ := h; rw [ht]; exact fun x hx => List.mem_cons_of_mem _ hx
theorem AskH.new {r a b : Int} {i : Int} {H H' : List (Th Wx)} (h : AskH (some (r, a, b)) i H H') : ∃ t, (⟨r, i, t, ⟨i, a, b⟩⟩ : Th Wx) ∈ H' := by
 obtain ⟨t, ht⟩ := h; rw [ht]; exact ⟨t, List.mem_cons_self ..⟩
theorem AskH.mem {o : Option (Int × Int × Int)} {i : Int} {H H' : List (Th Wx)} (h : AskH o i H H') : ∀ x ∈ H', x ∈ H ∨ ∃ r a b t, o = some (r, a, b) ∧ x = ⟨r, i, t, ⟨i, a, b⟩⟩ := by
 cases o with
 | none => have : H' = H := h; rw [this]; exact fun x hx => .inl hx
 | some y =>
  obtain ⟨r, a, b⟩ := y; obtain ⟨t, ht⟩ := h; rw [ht]
  intro x hx
  rcases List.mem_cons.1 hx with e | hx
  ·exact .inr ⟨r, a, b, t, rfl, e⟩
  ·exact .inl hx
theorem ask_pr {E : List Ent} {L : List Nd} {i j : Nat} {n m : Nd} (hi : L[i]? = some n) (hn : n.next = (j : Int)) (hj : L[j]? = some m) {r : Int} (hp : prE E n.id m.id = some r) : askF E (E.length : Int) L (i : Int) = some (r, n.id, m.id) := by
 rw [ask_two hi hn hj]
 unfold prE at hp
 obtain ⟨k, hk, rfl⟩ := Option.map_eq_some_iff.1 hp
 rw [hk]
 obtain ⟨hl, _⟩ := pairP_some hk
 simp only
 rw [if_pos (by omega)]
theorem ask_ok {E : List Ent} {lim : Int} {L : List Nd} {i : Int} {r a b : Int} (h : askF E lim L i = some (r, a, b)) : ∃ n m, L[i.toNat]? = some n ∧ n.id = a ∧ i ≠ -1 ∧ L[n.next.toNat]? = some m ∧ m.id = b ∧ n.next ≠ -1 ∧ prE E a b = some r := by
 unfold askF at h
 by_cases h1 : i = -1
 ·rw [if_pos h1] at h; cases h
 ·rw [if_neg h1] at h
  cases hn : L[i.toNat]? with
  | none => rw [hn] at h; cases h
  | some n =>
   rw [hn] at h
   simp only at h
   by_cases h2 : n.next = -1
   ·rw [if_pos h2] at h; cases h
   ·rw [if_neg h2] at h
    cases hm : L[n.next.toNat]? with
    | none => rw [hm] at h; cases h
    | some m =>
     rw [hm] at h
     simp only at h
     cases hp : pairP E n.id m.id with
     | none => rw [hp] at h; cases h
     | some k =>
      rw [hp] at h
      simp only at h
      by_cases h3 : (k : Int) < lim
      ·rw [if_pos h3] at h
       injection h with h; injection h with h4 h; injection h with h5 h6
       subst h5; subst h6
       exact ⟨n, m, rfl, rfl, h1, hm, rfl, h2, by unfold prE; rw [hp]; simp [h4]⟩
      ·rw [if_neg h3] at h; cases h
structure JoinPre (E : List Ent) (L : List Nd) (k : Nat) (id : Int) (n : Nd) (j : Nat) (m : Nd) (after : Int) : Prop where
 ne : k ≠ j
 hk : L[k]? = some n
 hn : n.next = (j : Int)
 hj : L[j]? = some m
 hm : m.next = after
 ha : after = -1 ∨ ∃ (p : Nat) (x : Nd), after = (p : Int) ∧ p ≠ k ∧ p ≠ j ∧ L[p]? = some x
 hI : (joinL L k j after id)[k]? = some ⟨id, n.ahead, after⟩
 good : AllOk (joinL L k j after id)
theorem JoinPre.ahead {E : List Ent} {L : List Nd} {k : Nat} {id : Int} {n : Nd} {j : Nat} {m : Nd} {after : Int} (h : JoinPre E L k id n j m after) : n.ahead = -1 ∨ ∃ (k0 : Nat) (x : Nd), n.ahead = (k0 : Int) ∧ (joinL L k j after id)[k0]? = some x ∧ Goes (joinL L k j after id) x := by
 rcases (h.good k _ h.hI).2 with h1 | ⟨p, h1, h2⟩
 ·exact .inl h1
 ·exact .inr ⟨p, _, h2, List.getElem?_eq_getElem h1, h.good.goes (List.getElem?_eq_getElem h1)⟩
theorem RunInv.join {E : List Ent} {N : Nat} {R : List Int} {L : List Nd} {ns : List (Nat × Int)} {B : Nat} {H H2 : List (Th Wx)} {x : Th Wx} {k : Nat} (hG : Tk.Good E) (h : RunInv E N R L ns B H) (hp : H.Perm (x :: H2)) (hle : ∀ y ∈ H, Hq.Le x y) (hk : x.p = (k : Int)) (hst : staleB L k x.x.a x.x.b = false) :
  ∃ n j m after, JoinPre E L k x.r n j m after ∧ ∀ H1 H3, AskH (askF E (E.length : Int) (joinL L k j after x.r) n.ahead) n.ahead H2 H1 → AskH (askF E (E.length : Int) (joinL L k j after x.r) (k : Int)) (k : Int) H1 H3 → ∃ ns', RunInv E N R (joinL L k j after x.r) ns' (B + 2) H3 ∧ ns'.length + 1 = ns.length := by
 obtain ⟨k', hk', hkf, hkl, ha0, hpr⟩ := h.ok x (hp.mem_iff.2 (List.mem_cons_self ..))
 have ek : k' = k := by omega
 subst ek
 obtain ⟨r, hr, hrs, hrl⟩ := pr_rules hpr
 obtain ⟨u, j, v, e⟩ := stale_no h.chain ha0 hst
 subst e
 have hs := h.chain.sorted
 have hkj : k' < j := (Sorted.right (u := u) hs).1
 obtain ⟨q, g1, g2, g3, g4⟩ := Links.at_ h.chain.links
 obtain ⟨q', g5, g6, _, _⟩ := Links.at_ (u := u ++ [(k', x.x.a)]) (i := j) (a := x.x.b) (v := v) (p := -1) (by simpa using h.chain.links)
 have hnxt : nxt ((j, x.x.b) :: v) = (j : Int) := rfl
 rw [hnxt] at g1
 have hid : 0 ≤ x.r := by omega
 have hcj := h.chain.join (id := x.r) hid
 have hvk : nxt v ≠ (k' : Int) := by
  cases v with
  | nil => show (-1 : Int) ≠ _; omega
  | cons y v =>
   have := Sorted.lt (Sorted.right (u := u) hs) (y := y) (by simp)
   show (y.1 : Int) ≠ _; simp only at this; omega
 have hI := joinL_i (id := x.r) g1 (Nat.ne_of_lt hkj) hvk (nxt_ok v)
 have hafter : nxt v = -1 ∨ ∃ (p : Nat) (z : Nd), nxt v = (p : Int) ∧ p ≠ k' ∧ p ≠ j ∧ L[p]? = some z := by
  cases v with
  | nil => exact .inl rfl
  | cons y v =>
   obtain ⟨q2, g7, _⟩ := Links.at_ (u := u ++ [(k', x.x.a), (j, x.x.b)]) (i := y.1) (a := y.2) (v := v) (p := -1) (by simpa using h.chain.links)
   have h1 := Sorted.lt (Sorted.right (u := u) hs) (y := y) (by simp)
   have h2 := Sorted.lt (Sorted.right (u := u) hs).2 (y := y) (by simp)
   simp only at h1 h2
   exact .inr ⟨y.1, _, rfl, by omega, by omega, g7⟩
 have hgood : AllOk (joinL L k' j (nxt v) x.r) := h.good.join hkl (by
  rcases hafter with h1 | ⟨p, z, h1, _, _, h2⟩
  ·exact .inl h1
  ·exact .inr ⟨p, lt_of h2, h1⟩)
 refine ⟨_, j, _, nxt v, ⟨Nat.ne_of_lt hkj, g1, rfl, g5, rfl, hafter, hI, hgood⟩, fun H1 H3 hA1 hA3 => ⟨u ++ (k', x.r) :: v, ⟨hcj, hgood, ?_, ?_, ?_, ?_, ?_⟩, by simp only [List.length_append, List.length_cons]; omega⟩⟩
 ·
  refine complete_join (e := ⟨x.r, k', x.x.a, x.x.b⟩) (Q := QH H) rfl (fun y hy hne => ?_) (fun y v0 hv id2 hp2 => ?_) u hs h.comp (fun u0 p hu id2 hp2 => ?_)
  ·obtain ⟨z, hz, hz2⟩ := qh_rest hp hk' y hy hne
   exact ⟨z, hA3.old z (hA1.old z hz), hz2⟩
  ·subst hv
   obtain ⟨q2, g7, _⟩ := Links.at_ (u := u ++ [(k', x.r)]) (i := y.1) (a := y.2) (v := v0) (p := -1) (by simpa using hcj.links)
   have hask := ask_pr hI (show nxt (y :: v0) = (y.1 : Int) from rfl) g7 hp2
   rw [hask] at hA3
   obtain ⟨t, ht⟩ := hA3.new
   exact ⟨_, ht, rfl, rfl, rfl, rfl⟩
  ·subst hu
   obtain ⟨q2, g7, _⟩ := Links.at_ (u := u0) (i := p.1) (a := p.2) (v := (k', x.r) :: v) (p := -1) (by simpa using hcj.links)
   have hq := g4 u0 p rfl
   have hask := ask_pr g7 (show nxt ((k', x.r) :: v) = (k' : Int) from rfl) hI hp2
   simp only at hA1
   rw [hq, hask] at hA1
   obtain ⟨t, ht⟩ := hA1.new
   exact ⟨_, hA3.old _ ht, rfl, rfl, rfl, rfl⟩
 ·
  intro y hy
  rcases hA3.mem y hy with hy | ⟨r2, a2, b2, t, ho, hy⟩
  ·rcases hA1.mem y hy with hy | ⟨r2, a2, b2, t, ho, hy⟩
   ·obtain ⟨k2, f1, f2, f3, f4, f5⟩ := h.ok y (hp.mem_iff.2 (List.mem_cons_of_mem _ hy))
    exact ⟨k2, f1, f2, by rw [joinL_len]; exact f3, f4, f5⟩
   ·subst hy
    obtain ⟨n2, m2, f1, f2, f3, f4, f5, f6, f7⟩ := ask_ok ho
    rcases List.eq_nil_or_concat u with hu | ⟨u0, p, hu⟩
    ·exact absurd (g3 hu) f3
    ·rw [List.concat_eq_append] at hu
     have hq := g4 u0 p hu
     subst hu
     obtain ⟨q2, g7, g8, _⟩ := Links.at_ (u := u0) (i := p.1) (a := p.2) (v := (k', x.r) :: v) (p := -1) (by simpa using hcj.links)
     refine ⟨p.1, hq, hq, lt_of g7, ?_, f7⟩
     simp only at f1
     rw [hq, Int.toNat_natCast, g7] at f1
     injection f1 with f1
     rw [← f2, ← f1]
     exact g8
  ·subst hy
   obtain ⟨n2, m2, f1, f2, f3, f4, f5, f6, f7⟩ := ask_ok ho
   refine ⟨k', rfl, rfl, lt_of hI, ?_, f7⟩
   rw [Int.toNat_natCast, hI] at f1
   injection f1 with f1
   rw [← f2, ← f1]
   exact hid
 ·
  rw [← h.res, hr]
  refine (enc_join (Q := QH H) (rules_older hG) (rules_pr hG) hs h.comp hrs (fun y hy => ?_)).symm
  obtain ⟨z, hz, h1, h2, h3, h4⟩ := hy
  have := (le_iff x z).1 (hle z hz)
  rw [← h1, ← hr]
  simp only
  omega
 ·have := h.bB; simp only [List.length_append, List.length_cons] at *; omega
 ·have h1 := h.bH; have h2 := hp.length_eq; have h3 := hA1.len; have h4 := hA3.len; simp only [List.length_append, List.length_cons] at *; omega
end Go.Proofs.YtkffhgiiejbnaaaGreat.Ch
namespace Go.Proofs.YtkffhgiiejbnaaaGreat.Ch
open Go.RowKit YtkffhgiiejbnaaaGreatW.PrintWords YtkffhgiiejbnaaaGreatW.PrintLast YtkffhgiiejbnaaaGreatW.PrintMore Aid Mp Hp Hq Tk
theorem join_any {w : World} {base c : Nat} {v : Value} {pt q : Nat} {lim st : Int} {L : List Nd} {B : Nat} {H : List (Th Wx)} {E : List Ent} {W0 : World} (HL : LkAt w base c v pt q lim st L) (HQ : HpOf w base q B H) (hW0 : W0.heap.size ≤ base) (HT0 : TabAt W0 pt E) (HB0 : Below base W0 w) {k j : Nat} {id after : Int} {n m : Nd} (h : JoinPre E L k id n j m after) (hHl : H.length ≤ 800000000) (hB : B ≤ 800000000) :
  Calls Tryz.prog 181 #[.pointer (some ⟨c, 0, none⟩), .int .i64 (k : Int), .int .i64 id] w fun e w' => e = .returned (.tuple #[]) ∧ Joined w w' base c v pt q lim (joinL L k j after id) B H (askF E lim (joinL L k j after id) n.ahead) n.ahead (askF E lim (joinL L k j after id) (k : Int)) (k : Int) := by
 have hg := h.good.goes h.hI
 have ha := h.ahead
 rcases h.ha with e | ⟨p, x, e, h1, h2, h3⟩
 ·have hm := h.hm
  have hI := h.hI
  subst e
  exact join_end HL HQ hW0 HT0 HB0 k j id h.ne h.hk h.hn h.hj hm hI hg ha hHl hB
 ·have hm := h.hm
  have hI := h.hI
  subst e
  exact join_two HL HQ hW0 HT0 HB0 k j id h.ne h.hk h.hn h.hj hm h1 h2 h3 hI hg ha hHl hB
structure Ran (w w' : World) (base c pt q : Nat) (lim : Int) (R : List Int) : Prop where
 mk :: (out : ∃ v st L ns, LkAt w' base c v pt q lim st L ∧ ChainIs L ns ∧ ids ns = R ∧ L.length ≤ 200000000) (below : Below base w w')
theorem run_any {w : World} {base c : Nat} {v : Value} {pt q : Nat} {st : Int} {L : List Nd} {B N : Nat} {H : List (Th Wx)} {E : List Ent} {W0 : World} {R : List Int} {ns : List (Nat × Int)} (hG : Tk.Good E) (HL : LkAt w base c v pt q (E.length : Int) st L) (HQ : HpOf w base q B H) (hW0 : W0.heap.size ≤ base) (HT0 : TabAt W0 pt E) (HB0 : Below base W0 w) (HI : RunInv E N R L ns B H) (hN : N ≤ 200000000) (hL : L.length ≤ 200000000) :
  Calls Tryz.prog 174 #[.pointer (some ⟨c, 0, none⟩)] w fun e w' => e = .returned (.tuple #[]) ∧ Ran w w' base c pt q (E.length : Int) R := by
 have HL0 := As.mk HL
 have HQ0 := As.mk HQ
 have HI0 := As.mk HI
 have HTT := As.mk (And.intro HT0 (And.intro HB0 hW0))
 have HN := As.mk hN
 have HGG := As.mk hG
 have HLL := As.mk hL
 clear HL HQ HI HT0 HB0 hW0 hN hG hL
 go_enter Tryz.func174, Tryz.ntmps174
 go_wp2_with fail
 go_loopg [] (H.length + 3 * ns.length) (fun f w' => ∃ (v : Value) (st : Int) (L2 : List Nd) (ns2 : List (Nat × Int)) (B2 : Nat) (H2 : List (Th Wx)) (W : World), As (W = w') ∧ As (H2.length + 3 * ns2.length ≤ f) ∧ As (LkAt W base c v pt q (E.length : Int) st L2) ∧ As (HpOf W base q B2 H2) ∧ As (RunInv E N R L2 ns2 B2 H2) ∧ As (Below base w W) ∧ As (L2.length = L.length))
 case atStart => exact ⟨v, st, L, ns, B, H, w, ⟨rfl⟩, ⟨Nat.le_refl _⟩, HL0, HQ0, HI0, ⟨Below.refl _ _⟩, ⟨rfl⟩⟩
 case round =>
  clear HL0 HQ0 HI0
  obtain ⟨v, st, L2, ns2, B2, H2, W, HW, HK, HL, HQ, HI, HB, HLN⟩ := hrel
  have hW := HW.out
  subst hW
  clear HW
  have c2 := HL.out.c.2.2.1
  have hHb : H2.length ≤ 700000000 := by have := HI.out.bH; have := HN.out; omega
  have hBb : B2 ≤ 700000000 := by have := HI.out.bB; have := HN.out; omega
  cases H2 with
  | nil =>
   have HS := As.mk (HI.out.stop HGG.out)
   have HI1 := As.mk HI.out.chain
   clear HI
   go_wp2_with (go_at_call 179; refine (pop_no HQ.out).mono ?_; rintro e w1 ⟨rfl, hb⟩; have HB1 := As.mk (HB.out.trans (hb.mono (Nat.le_trans HL.out.le (Nat.le_of_lt HL.out.lt)))); have HL1 := As.mk (HL.out.below hb); clear hb)
   refine bodyPost_ret (results_none rfl _ _ _) rfl ?_
   exact ⟨rfl, ⟨v, st, L2, ns2, (HL1.out.below (below_alloc (Below.refl _ _) _)), HI1.out, HS.out, by rw [HLN.out]; exact HLL.out⟩, HB1.out.trans ((below_alloc (Below.refl _ _) _).mono (Nat.le_trans HL1.out.le (Nat.le_of_lt HL1.out.lt)))⟩
  | cons y0 Y =>
   generalize hY : y0 :: Y = H2 at *
   have hpos : 0 < H2.length := by rw [← hY]; simp
   clear hY
   obtain ⟨f, rfl⟩ : ∃ f, gk = f + 1 := ⟨gk - 1, by have := HK.out; omega⟩
   go_wp2_with (go_at_call 179; fail)
   refine (pop_yes HQ.out hpos (by omega)).mono ?_
   intro e w1 hpop
   obtain ⟨⟨x, l2, rfl, hp, hle, hq⟩, hb, hkk⟩ := hpop
   obtain ⟨k, ok1, ok2, ok3, ok4, ok5⟩ := HI.out.ok x (hp.mem_iff.2 (List.mem_cons_self ..))
   have HL1 := As.mk (HL.out.kept hkk (HpOf.qt hq))
   have HB1 := As.mk (HB.out.trans hb)
   have HQ1 := As.mk hq
   have HPM := As.mk hp
   have HLE := As.mk hle
   have HPK := As.mk ok1
   obtain ⟨n0, hn0⟩ : ∃ n0, L2[k]? = some n0 := ⟨_, List.getElem?_eq_getElem ok3⟩
   have HN0 := As.mk (And.intro hn0 (HI.out.good.goes hn0))
   obtain ⟨r, p, t, f0, a, b⟩ := x
   simp only at ok1 ok2 ok4 ok5
   subst ok2
   have hba := below_alloc (Below.refl w1.heap.size w1) (.cells #[.int .i64 (k : Int), .int .i64 a, .int .i64 b] 275)
   have HM2 := As.mk (Go.MapKept.heap_alloc w1 (.cells #[.int .i64 (k : Int), .int .i64 a, .int .i64 b] 275)).1
   have HL2 := As.mk (HL1.out.below hba)
   have HQ2 := As.mk (HQ1.out.below hba)
   have HB2 := As.mk (HB1.out.trans (hba.mono (Nat.le_trans HL1.out.le (Nat.le_of_lt HL1.out.lt))))
   clear hp hle hq hb hkk hn0 ok1 ok3 ok4 ok5 hba HL HQ HB HL1 HQ1 HB1 c2
   have m0 := cell_of (i := 0) HM2.out rfl
   have m1 := cell_of (i := 1) HM2.out rfl
   have m2 := cell_of (i := 2) HM2.out rfl
   go_wp2_with (go_at_call 180; fail)
   refine (stale_any HL2.out k a b HN0.out.1 HN0.out.2).mono ?_
   rintro e w3 ⟨rfl, hb3⟩
   have HL3 := As.mk (HL2.out.below hb3)
   have HQ3 := As.mk (HQ2.out.below hb3)
   have HB3 := As.mk (HB2.out.trans (hb3.mono (Nat.le_trans HL2.out.le (Nat.le_of_lt HL2.out.lt))))
   have HM3 := As.mk ((hb3.block _ (blk_lt HM2.out)).trans HM2.out)
   clear hb3 m0 m1 m2 HL2 HQ2 HB2 HM2
   cases hst : staleB L2 k a b with
   | true =>
    have HI3 := As.mk (HI.out.stale HPM.out HPK.out hst)
    have HLL2 := As.mk (HPM.out.length_eq)
    clear hst HI
    go_wp2
    go_roundg f
    case measure => omega
    case rel => exact ⟨v, st, L2, ns2, B2, l2, _, ⟨rfl⟩, ⟨by have := HK.out; have := HLL2.out; simp only [List.length_cons] at this; omega⟩, HL3, HQ3, HI3, HB3, HLN⟩
   | false =>
    obtain ⟨n, j, m, after, hpre, hnext⟩ := HI.out.join HGG.out HPM.out HLE.out HPK.out hst
    have HPRE := As.mk hpre
    have HNEXT := As.mk hnext
    have HLL2 := As.mk (HPM.out.length_eq)
    have hl2 : l2.length ≤ 700000000 := by have := HLL2.out; simp only [List.length_cons] at this; omega
    simp only at HPRE HNEXT
    clear hst HI hpre hnext
    have m0 := cell_of (i := 0) HM3.out rfl
    go_wp2_with (go_at_call 181; fail)
    refine (join_any HL3.out HQ3.out HTT.out.2.2 HTT.out.1 (HTT.out.2.1.trans HB3.out) HPRE.out (by omega) (by omega)).mono ?_
    rintro e w4 ⟨rfl, ⟨⟨st4, hl4⟩, hb4, H1, H3, ha1, ha3, hq4⟩⟩
    obtain ⟨ns4, hi4, hn4⟩ := HNEXT.out H1 H3 ha1 ha3
    have HL4 := As.mk hl4
    have HB4 := As.mk (HB3.out.trans hb4)
    have HQ4 := As.mk hq4
    have HI4 := As.mk hi4
    have HN4 := As.mk hn4
    have HA4 := As.mk (And.intro ha1.len ha3.len)
    have HJL := As.mk (joinL_len L2 k j after r)
    clear hl4 hb4 hq4 hi4 hn4 ha1 ha3 m0 HNEXT HPRE HL3 HQ3 HB3 HM3
    go_wp2
    go_roundg f
    case measure => omega
    case rel => exact ⟨v, st4, _, ns4, _, H3, _, ⟨rfl⟩, ⟨by have := HK.out; have := HLL2.out; have := HA4.out; have := HN4.out; simp only [List.length_cons] at *; omega⟩, HL4, HQ4, HI4, HB4, ⟨HJL.out.trans HLN.out⟩⟩
end Go.Proofs.YtkffhgiiejbnaaaGreat.Ch
namespace Go.Proofs.YtkffhgiiejbnaaaGreat.Ch
open Go.RowKit YtkffhgiiejbnaaaGreatW.PrintWords YtkffhgiiejbnaaaGreatW.PrintLast YtkffhgiiejbnaaaGreatW.PrintMore Aid Mp Hp Hq Tk
theorem info_i : (Tryz.prog.info? 3).map (fun i => (i.zero, i.size, i.bytes)) = some (some (.int .i64 0), 1, 8) := by kernel_rfl
theorem ids_len (ns : List (Nat × Int)) : (ids ns).length = ns.length := by simp [ids]
theorem ids_any {w : World} {base c : Nat} {v : Value} {pt q : Nat} {lim st : Int} {L : List Nd} {ns : List (Nat × Int)} (HL : LkAt w base c v pt q lim st L) (HC : ChainIs L ns) (hN : ns.length ≤ 1000000000) :
  Calls Tryz.prog 175 #[.pointer (some ⟨c, 0, none⟩)] w fun e w' => ∃ sv, e = .returned sv ∧ Kd.R (Kd.int .i64) 3 w' w.heap.size (fun _ => True) sv (ids ns) ∧ Below w.heap.size w w' := by
 have HL := As.mk HL
 have HC := As.mk HC
 have HNN := As.mk hN
 obtain ⟨A, cap, rfl⟩ := Kd.R_slice HL.out.rows
 rename_i x1 x2
 clear x1 x2 hN
 have hstart : ∃ p : Int, p = 0 ∧ (p = nxt ns ∨ (L.length = 0 ∧ p = 0 ∧ ns = [])) := by
  refine ⟨0, rfl, ?_⟩
  rcases Nat.eq_zero_or_pos L.length with h | h
  ·exact .inr ⟨h, rfl, HC.out.empty h⟩
  ·obtain ⟨a, u, e⟩ := HC.out.begin_ h
   exact .inl (by rw [e]; rfl)
 obtain ⟨p0, hp0, hst⟩ := hstart
 have HST := As.mk hst
 subst hp0
 clear hst
 go_enter Tryz.func175, Tryz.ntmps175
 go_wp2_with fail
 go_loopg [3, 4] ns.length (fun f v3 v4 w' => ∃ (p : Int) (xs : List Int) (u r : List (Nat × Int)), v4 = .int .i64 p ∧ As (ns = u ++ r) ∧ As (ids u = xs) ∧ As (p = nxt r ∨ (L.length = 0 ∧ p = 0 ∧ r = [])) ∧ As (r.length ≤ f) ∧ As (Kd.R (Kd.int .i64) 3 w' w.heap.size (fun _ => True) v3 xs) ∧ As (Below w.heap.size w w'))
 case atStart => exact ⟨0, [], [], ns, rfl, ⟨rfl⟩, ⟨rfl⟩, ⟨HST.out.imp id (fun h => ⟨h.1, rfl, h.2.2⟩)⟩, ⟨Nat.le_refl _⟩, ⟨Kd.R_nil _ _ _ _ _⟩, ⟨Below.refl _ _⟩⟩
 case round =>
  clear HST
  obtain ⟨p, xs, u, r, rfl, HNS, HXS, HP, HK, HO, HB⟩ := hrel
  cases r with
  | nil =>
   have HE := As.mk (show ids ns = xs by rw [HNS.out, List.append_nil, HXS.out])
   rcases HP.out with hp | ⟨hl, hp, _⟩
   ·have hp' : p = -1 := hp
    subst hp'
    clear HP
    go_wp2
    go_ret
    exact ⟨_, rfl, by rw [HE.out]; exact HO.out, HB.out⟩
   ·subst hp
    clear HP
    have c1 := (HL.out.below HB.out).c.2.1
    have hlI : ¬ (0 : Int) < (L.length : Int) := by omega
    clear hl
    go_wp2
    go_ret
    exact ⟨_, rfl, by rw [HE.out]; exact HO.out, HB.out⟩
  | cons y r =>
   obtain ⟨i, a⟩ := y
   have hp : p = (i : Int) := by
    rcases HP.out with h | ⟨_, _, h⟩
    ·exact h
    ·cases h
   subst hp
   obtain ⟨q1, g1, g2, _⟩ := Links.at_ (u := u) (i := i) (a := a) (v := r) (p := -1) (by rw [← HNS.out]; exact HC.out.links)
   have HX := As.mk g1
   have hil := lt_of g1
   have hiI : (i : Int) < (L.length : Int) := by omega
   have hi0 : (0 : Int) ≤ (i : Int) := by omega
   have hi1 : ((i : Int) != -1) = true := by simpa using (show ¬ (i : Int) = -1 by omega)
   obtain ⟨g, cap', hform, _, _, _, _, _, cells, hg⟩ := HL.out.form (by omega)
   injection hform with hform _ hform3
   subst hform; subst hform3
   obtain ⟨f, rfl⟩ : ∃ f, gk = f + 1 := ⟨gk - 1, by have := HK.out; simp only [List.length_cons] at this; omega⟩
   have HXL := As.mk (show xs.length + 1 ≤ 1000000000 by rw [← HXS.out, ids_len]; have := HNN.out; rw [HNS.out] at this; simp only [List.length_append, List.length_cons] at this; omega)
   have c1 := (HL.out.below HB.out).c.2.1
   have a0 := ((HL.out.below HB.out).elem HX.out).1 0 _ rfl
   simp only [Nat.add_zero] at a0
   clear HP hg g1 hil
   go_wp2_with ((with_reducible refine gate_builtin (b := .append) (xs := #[.tmp 24, .tmp 33]) rfl ?_); at_builtin; refine Kd.R_append (Kd.int .i64) (w0 := w) w.heap.size rfl (.tmp 24) (.tmp 33) 41 3 (.int .i64 0) 8 rfl Tryz.underlying41 info_i rfl (by decide) (by omega) _ xs a [.int .i64 a] (fun _ => True) (fun _ => False) rfl ?aX ?aP (fun _ hk => hk.elim) ?aF ?aO ?aB ?aS ?aL ?_; (case aX => first | exact rfl | (simp [Act.eval, go_sem]; done)); (case aP => exact rfl); (case aF => exact (fun _ _ => trivial)); (case aO => exact (by (with_reducible repeat (first | apply Kd.R_alloc | apply Kd.R_drewN | apply Kd.R_drew)); exact HO.out)); (case aB => exact (by repeat (first | (with_reducible first | exact HB.out | apply below_alloc | apply pw_below_drewN | apply below_drew1) | exact HB.out))); (case aS => exact (below_size (by repeat (first | (with_reducible first | exact HB.out | apply below_alloc | apply pw_below_drewN | apply below_drew1) | exact HB.out)))); (case aL => (have := HXL.out; omega)); intro v1 w1 ho hb hg hat; clear c1 a0; have hh := HL.out.below hb; have c1 := hh.c.2.1; have a2 := (hh.elem HX.out).1 2 _ rfl; clear hh; have HO_ := As.mk ho; have HB_ := As.mk hb; clear HO HB ho hb hg hat; have HO := HO_; have HB := HB_; clear HO_ HB_)
   go_roundg f
   case measure => omega
   case rel => exact ⟨nxt r, xs ++ [a], u ++ [(i, a)], r, rfl, ⟨by rw [HNS.out]; simp⟩, ⟨by rw [← HXS.out]; simp [ids]⟩, ⟨.inl rfl⟩, ⟨by have := HK.out; simp only [List.length_cons] at this; omega⟩, HO, HB⟩
def chainB (s : ByteArray) : List (Nat × Int) := (List.range s.size).map (fun i : Nat => (i, bt s (i : Int)))
theorem chainB_from (s : ByteArray) : ∀ (d i : Nat) (p : Int), s.size - i = d → i ≤ s.size → (p = (i : Int) - 1) → Links (nodesF s) p ((List.range' i d).map (fun i : Nat => (i, bt s (i : Int)))) ∧ Sorted ((List.range' i d).map (fun i : Nat => (i, bt s (i : Int))))
 | 0, i, p, h1, h2, hp => ⟨trivial, trivial⟩
 | d + 1, i, p, h1, h2, hp => by
  obtain ⟨k1, k2⟩ := chainB_from s d (i + 1) (i : Int) (by omega) (by omega) (by omega)
  rw [List.range'_succ, List.map_cons]
  have hb := bt_range s (i : Int)
  refine ⟨⟨?_, hb.1, k1⟩, ?_⟩
  ·rw [nodesF_at s (by omega), hp]
   congr 2
   cases d with
   | zero => rw [if_pos (by omega)]; rfl
   | succ d => rw [if_neg (by omega), List.range'_succ, List.map_cons]; show _ = ((i + 1 : Nat) : Int); omega
  ·cases d with
   | zero => exact trivial
   | succ d => rw [List.range'_succ, List.map_cons] at k2 ⊢; exact ⟨Nat.lt_succ_self i, k2⟩
theorem chainB_is (s : ByteArray) : ChainIs (nodesF s) (chainB s) := by
 have h := chainB_from s s.size 0 (-1) (by omega) (by omega) (by omega)
 rw [← List.range_eq_range'] at h
 refine ⟨h.1, h.2, fun k n hk hn => ?_, fun h0 => ?_, fun h0 => ?_⟩
 ·have hlt := lt_of hk
  rw [nodesF_len] at hlt
  exact absurd (List.mem_map.2 ⟨k, List.mem_range.2 hlt, rfl⟩) (hn (bt s (k : Int)))
 ·rw [nodesF_len] at h0
  obtain ⟨n, hn⟩ : ∃ n, s.size = n + 1 := ⟨s.size - 1, by omega⟩
  unfold chainB
  rw [hn, List.range_succ_eq_map, List.map_cons]
  exact ⟨_, _, rfl⟩
 ·rw [nodesF_len] at h0
  unfold chainB
  rw [h0]; rfl
theorem ids_chainB (s : ByteArray) : ids (chainB s) = (List.range s.size).map (fun i : Nat => bt s (i : Int)) := by
 unfold ids chainB; rw [List.map_map]; rfl
theorem run_begin {E : List Ent} {s : ByteArray} {H : List (Th Wx)} (h : AskedTo E (E.length : Int) (nodesF s) s.size H) : RunInv E s.size (encR (rules E) 256 (ids (chainB s))) (nodesF s) (chainB s) s.size H := by
 refine ⟨chainB_is s, AllOk.nodes s, fun u i a j b v id hn hp => ?_, fun x hx => ?_, rfl, by simp [chainB]; omega, by have := h.many; simp [chainB]; omega⟩
 ·have hc := (chainB_is s).links
  rw [hn] at hc
  obtain ⟨q, g1, _⟩ := Links.at_ hc
  obtain ⟨q', g2, _⟩ := Links.at_ (u := u ++ [(i, a)]) (i := j) (a := b) (v := v) (p := -1) (by simpa using hc)
  have hlt := lt_of g1
  rw [nodesF_len] at hlt
  obtain ⟨t, ht⟩ := h.all i id a b hlt (ask_pr g1 rfl g2 hp)
  exact ⟨_, ht, rfl, rfl, rfl, rfl⟩
 ·obtain ⟨k, h1, h2, h3, h4⟩ := h.only x hx
  obtain ⟨n, m, f1, f2, f3, f4, f5, f6, f7⟩ := ask_ok h4
  refine ⟨k, h2, h3, by rw [nodesF_len]; exact h1, ?_, f7⟩
  rw [Int.toNat_natCast, nodesF_at s h1] at f1
  injection f1 with f1
  rw [← f2, ← f1]
  exact (bt_range s _).1
def encS (E : List Ent) (s : ByteArray) : List Int := encR (rules E) 256 ((List.range s.size).map (fun i : Nat => bt s (i : Int)))
theorem passL_len (a b id : Int) : ∀ l : List Int, (passL a b id l).length ≤ l.length
 | [] => by unfold passL; simp
 | [x] => by unfold passL; simp
 | x :: y :: l => by
  unfold passL
  split
  ·have := passL_len a b id l; simp only [List.length_cons]; omega
  ·have := passL_len a b id (y :: l); simp only [List.length_cons] at *; omega
theorem encR_len : ∀ (rs : List (Int × Int)) (id : Int) (l : List Int), (encR rs id l).length ≤ l.length
 | [], _, l => Nat.le_refl _
 | r :: rs, id, l => Nat.le_trans (encR_len rs (id + 1) _) (passL_len _ _ _ l)
theorem encS_len (E : List Ent) (s : ByteArray) : (encS E s).length ≤ s.size := by
 have := encR_len (rules E) 256 ((List.range s.size).map (fun i : Nat => bt s (i : Int)))
 simpa [encS] using this
theorem len_of {p : Nat} {E : List Ent} {w : World} (h : TabAt w p E) : Calls Tryz.prog 121 #[.pointer (some ⟨p, 0, none⟩)] w fun e w' => e = .returned (.int .i64 E.length) ∧ w = w' := by
 obtain ⟨A, c, h1, _⟩ := h.rows
 exact len_raw p E.length c A w h1
theorem below_any {w : World} {pt : Nat} {E : List Ent} (hG : Tk.Good E) (HT : TabAt w pt E) (s : ByteArray) (hs : s.size ≤ 200000000) :
  Calls Tryz.prog 163 #[.pointer (some ⟨pt, 0, none⟩), .string s, .int .i64 (E.length : Int)] w fun e w' => ∃ sv, e = .returned sv ∧ Kd.R (Kd.int .i64) 3 w' w.heap.size (fun _ => True) sv (encS E s) ∧ Below w.heap.size w w' := by
 have HTT := As.mk HT
 have HGG := As.mk hG
 have HSS := As.mk hs
 clear HT hG hs
 go_enter Tryz.func163, Tryz.ntmps163
 go_wp2_with (first
  | (go_at_call 173; refine (begin_any HTT.out s HSS.out (E.length : Int)).mono ?_; rintro e w1 ⟨c, rfl, ⟨q, v, H, hl, hq, hat⟩, hb⟩; have HL1 := As.mk hl; have HQ1 := As.mk hq; have HB1 := As.mk hb; have HI1 := As.mk (run_begin hat); clear hl hq hb hat)
  | (go_at_call 174; refine (run_any HGG.out HL1.out HQ1.out (Nat.le_refl _) HTT.out HB1.out HI1.out HSS.out (by rw [nodesF_len]; exact HSS.out)).mono ?_; rintro e w2 ⟨rfl, ⟨v2, st2, L2, ns2, hl, hc, hi, hn⟩, hb⟩; have HL2 := As.mk hl; have HC2 := As.mk hc; have HI2 := As.mk hi; have HB2 := As.mk (HB1.out.trans hb); clear hl hc hi hn hb HL1 HQ1 HB1 HI1; have HL3 := As.mk (show ns2.length ≤ 1000000000 by have h1 := encR_len (rules E) 256 (ids (chainB s)); rw [← HI2.out, ids_len] at h1; have h2 : (ids (chainB s)).length = s.size := (by rw [ids_len]; simp [chainB]); have := HSS.out; omega))
  | (go_at_call 175; refine (ids_any HL2.out HC2.out HL3.out).mono ?_; rintro e w3 ⟨sv, rfl, ho, hb⟩; have HO3 := As.mk ho; have HB3 := As.mk (bt_ HB2.out hb); have HLE := As.mk HB2.out.size; clear ho hb))
 go_ret
 refine ⟨_, rfl, ?_, HB3.out⟩
 have h := Kd.R_lower HO3.out HLE.out
 rw [HI2.out, ids_chainB] at h
 exact h
theorem encode_any {w : World} {pt : Nat} {E : List Ent} (hG : Tk.Good E) (HT : TabAt w pt E) (s : ByteArray) (hs : s.size ≤ 200000000) :
  Calls Tryz.prog 130 #[.pointer (some ⟨pt, 0, none⟩), .string s] w fun e w' => ∃ sv, e = .returned sv ∧ Kd.R (Kd.int .i64) 3 w' w.heap.size (fun _ => True) sv (encS E s) ∧ Below w.heap.size w w' := by
 have HTT := As.mk HT
 have HC := As.mk (below_any hG HT s hs)
 clear HT hG hs
 go_enter Tryz.func130, Tryz.ntmps130
 go_wp2_with (first
  | (go_at_call 121; refine (len_of HTT.out).mono ?_; rintro e w1 ⟨rfl, rfl⟩)
  | (go_at_call 163; refine HC.out.mono ?_; rintro e w3 ⟨sv, rfl, ho, hb⟩; have HO3 := As.mk ho; have HB3 := As.mk hb; clear ho hb))
 go_ret
 exact ⟨_, rfl, HO3.out, HB3.out⟩
end Go.Proofs.YtkffhgiiejbnaaaGreat.Ch
