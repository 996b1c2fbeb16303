/- DiffWindows: the walk of the law; no condition. -/
import Derived.Test.YtphdbombgljamaaDiffA
namespace Go.Proofs.Ytphdbombgljamaa.Df
open Go.RowKit Go.Proofs.YtphdbombgljamaaW.PrintWords Go.Proofs.YtphdbombgljamaaW.PrintLast Go.Proofs.YtphdbombgljamaaW.PrintMore Go.Proofs.Ytphdbombgljamaa.Rf Go.Proofs.Ytphdbombgljamaa.Aid
set_option linter.unusedVariables false
set_option linter.unusedSimpArgs false
set_option maxHeartbeats 400000

theorem lookK_head (p q : Nat) (l : List (Nat × Nat)) : lookK ((p, q) :: l) q = (p : Int) := by simp [lookK]
theorem lookK_tail (p q q' : Nat) (l : List (Nat × Nat)) (h : q < q') : lookK ((p, q) :: l) q' = lookK l q' := by
  unfold lookK
  rw [List.find?_cons]
  have : (q == q') = false := by simp; omega
  simp only [this]
theorem lookK_none {a b : List Int} {l : List (Nat × Nat)} {i k : Nat} (h : Up a b i (k + 1) l) : lookK l k = -1 := by
  rw [lookK_is, up_none h]; rfl
theorem staysY_at (a b : List Int) (k : Nat) (h : k < b.length) : rd (staysY a b) (k : Int) = lookK (pairs a b) k := by
  unfold staysY intsOf rd
  rw [Int.toNat_natCast, List.getD_eq_getElem?_getD, List.getElem?_map, List.getElem?_range h]
  rfl
theorem Up.le {a b : List Int} : ∀ {l : List (Nat × Nat)} {i k : Nat}, Up a b i k l → i ≤ a.length ∧ k ≤ b.length
  | [], _, _, h => h
  | (p, q) :: l, i, k, h => by obtain ⟨h1, h2, ⟨h3, h4, _⟩, _⟩ := h; omega
theorem Up.step {a b : List Int} {l : List (Nat × Nat)} {i k : Nat} (h : Up a b i k l) (hk : k < b.length) : (∃ p l', l = (p, k) :: l' ∧ i ≤ p ∧ p < a.length ∧ Up a b (p + 1) (k + 1) l') ∨ Up a b i (k + 1) l := by
  cases l with
  | nil => exact .inr ⟨h.1, hk⟩
  | cons x l =>
    obtain ⟨p, q⟩ := x
    obtain ⟨h1, h2, ⟨h3, h4, h5⟩, h6⟩ := h
    by_cases e : q = k
    · subst e; exact .inl ⟨p, l, rfl, h1, h3, h6⟩
    · exact .inr ⟨h1, by omega, ⟨h3, h4, h5⟩, h6⟩
/-- The law's loop: what is checked, what stands open. -/
structure LW (a b : List Int) (k fi fk n : Nat) : Prop where
  out : ∃ (dn : List S43) (ps : List (Nat × Nat)), winP a b = dn ++ winF a b fi fk ps ∧ n = dn.length ∧ Up a b fi k ps ∧ fk ≤ k ∧ (∀ q, k ≤ q → lookK (pairs a b) q = lookK ps q)
theorem LW.start (a b : List Int) (ha : a.length ≤ 500) (hb : b.length ≤ 500) : LW a b 0 0 0 0 := ⟨[], pairs a b, by unfold winP; rw [if_pos ⟨ha, hb⟩]; rfl, rfl, go_up a b _ 0 0 (by omega) (by omega), Nat.le_refl _, fun _ _ => rfl⟩
theorem oneW_cases (b : List Int) {fi fk i k : Nat} (h1 : fi ≤ i) (h2 : fk ≤ k) : (i = fi ∧ k = fk ∧ oneW b fi fk i k = []) ∨ ((fi < i ∨ (fi = i ∧ fk < k)) ∧ oneW b fi fk i k = [⟨fi, i, cutB b fk k⟩]) := by
  by_cases h : i = fi ∧ k = fk
  · exact .inl ⟨h.1, h.2, by rw [h.1, h.2, oneW_same]⟩
  · exact .inr ⟨by omega, oneW_other b h⟩
theorem LW.stay {a b : List Int} {k fi fk n : Nat} (h : LW a b k fi fk n) (hk : k < b.length) :
    (lookK (pairs a b) k = -1 ∧ LW a b (k + 1) fi fk n) ∨
    (∃ p : Nat, lookK (pairs a b) k = (p : Int) ∧ fi ≤ p ∧ fk ≤ k ∧ p < a.length ∧
      ((fi = p ∧ fk = k ∧ LW a b (k + 1) (p + 1) (k + 1) n) ∨ ((fi < p ∨ (fi = p ∧ fk < k)) ∧ (winP a b)[n]? = some ⟨fi, p, cutB b fk k⟩ ∧ LW a b (k + 1) (p + 1) (k + 1) (n + 1)))) := by
  obtain ⟨dn, ps, h1, h2, h3, h4, h5⟩ := h.out
  rcases h3.step hk with ⟨p, l', rfl, q1, q2, q3⟩ | q
  · refine .inr ⟨p, by rw [h5 k (Nat.le_refl _), lookK_head], q1, h4, q2, ?_⟩
    have hl : ∀ q, k + 1 ≤ q → lookK (pairs a b) q = lookK l' q := fun q hq => by rw [h5 q (by omega), lookK_tail _ _ _ _ (by omega)]
    have hw : winF a b fi fk ((p, k) :: l') = oneW b fi fk p k ++ winF a b (p + 1) (k + 1) l' := rfl
    rw [hw] at h1
    rcases oneW_cases b q1 h4 with ⟨e1, e2, e3⟩ | ⟨e1, e2⟩
    · exact .inl ⟨e1.symm, e2.symm, ⟨dn, l', by rw [h1, e3]; rfl, h2, q3, Nat.le_refl _, hl⟩⟩
    · rw [e2] at h1
      refine .inr ⟨e1, by rw [h1, h2]; simp, ⟨dn ++ [⟨fi, p, cutB b fk k⟩], l', by rw [h1]; simp, by rw [h2]; simp, q3, Nat.le_refl _, hl⟩⟩
  · exact .inl ⟨by rw [h5 k (Nat.le_refl _)]; exact lookK_none q, ⟨dn, ps, h1, h2, q, by omega, fun q hq => h5 q (by omega)⟩⟩
theorem LW.end_ {a b : List Int} {fi fk n : Nat} (h : LW a b b.length fi fk n) : fi ≤ a.length ∧ fk ≤ b.length ∧
    ((fi = a.length ∧ fk = b.length ∧ (winP a b).length = n) ∨ ((fi < a.length ∨ (fi = a.length ∧ fk < b.length)) ∧ (winP a b)[n]? = some ⟨fi, a.length, cutB b fk b.length⟩ ∧ (winP a b).length = n + 1)) := by
  obtain ⟨dn, ps, h1, h2, h3, h4, h5⟩ := h.out
  cases ps with
  | cons x l =>
    obtain ⟨p, q⟩ := x
    obtain ⟨_, g2, ⟨_, g4, _⟩, _⟩ := h3
    omega
  | nil =>
    have hi : fi ≤ a.length := h3.1
    refine ⟨hi, h4, ?_⟩
    have hw : winF a b fi fk [] = oneW b fi fk a.length b.length := rfl
    rw [hw] at h1
    rcases oneW_cases b hi h4 with ⟨e1, e2, e3⟩ | ⟨e1, e2⟩
    · exact .inl ⟨e1.symm, e2.symm, by rw [h1, e3, h2]; simp⟩
    · rw [e2] at h1
      exact .inr ⟨e1, by rw [h1, h2]; simp, by rw [h1, h2]; simp⟩
theorem rd_win {l : List S43} {n : Nat} {e : S43} (h : l[n]? = some e) : rd_T43 l (n : Int) = e := by
  unfold rd_T43
  rw [Int.toNat_natCast, List.getD_eq_getElem?_getD, h]
  rfl
theorem wbig {A : Option Addr} {c : Nat} {a : List Int} {B : Option Addr} {d : Nat} {b : List Int} {w : World} (h : 60 < a.length ∨ 60 < b.length) :
    Calls Try.prog 4 #[.slice A a.length c, .slice B b.length d] w fun e w' => e = .returned (.bool true) ∧ Below w.heap.size w w' := by
  have hd : ((60 : Int) < (a.length : Int)) ∨ (¬ (60 : Int) < (a.length : Int) ∧ (60 : Int) < (b.length : Int)) := by omega
  rcases hd with i1 | ⟨i1, i2⟩
  all_goals
    go_enter Try.func4, Try.ntmps4
    go_wp2_with fail
    refine (awake_any _).mono ?_
    rintro e w1 ⟨rfl, hb⟩
    go_wp2
    go_ret
    exact ⟨rfl, hb⟩
set_option maxRecDepth 100000 in
set_option maxHeartbeats 1000000 in
theorem wsmall {A : Option Addr} {c : Nat} {a : List Int} {B : Option Addr} {d : Nat} {b : List Int} {w : World} (hr0 : Kd.C (Kd.int .i64) w A a.length a) (hc0 : a.length ≤ c) (hr1 : Kd.C (Kd.int .i64) w B b.length b) (hc1 : b.length ≤ d) (ha : a.length ≤ 60) (hb : b.length ≤ 60) :
    Calls Try.prog 4 #[.slice A a.length c, .slice B b.length d] w fun e w' => e = .returned (.bool true) ∧ Below w.heap.size w w' := by
  have HR0 := As.mk hr0
  have HR1 := As.mk hr1
  have HC0 := As.mk hc0
  have HC1 := As.mk hc1
  clear hr0 hr1 hc0 hc1
  have i1 : ¬ (60 : Int) < (a.length : Int) := by omega
  have i2 : ¬ (60 : Int) < (b.length : Int) := by omega
  go_enter Try.func4, Try.ntmps4
  go_wp2_with fail
  refine (refStays_any A c a B d b _ HR0.out HC0.out HR1.out HC1.out (by omega) (by omega)).mono ?_
  rintro e w1 ⟨A1, c1, A2, c2, rfl, hx, hy, hb1⟩
  have HY := As.mk hy
  have HB1 := As.mk hb1
  clear hx hy hb1
  go_wp2_with fail
  refine (windows_any (Kd.C_below HR0.out HB1.out) HC0.out (Kd.C_below HR1.out HB1.out) HC1.out (by omega) (by omega)).mono ?_
  obtain ⟨m, hm⟩ : ∃ m, m = (winP a b).length := ⟨_, rfl⟩
  rw [← hm]
  have HM := As.mk hm
  clear hm
  rintro e w2 ⟨A3, c3, rfl, hc3, hs, hb2⟩
  have HY2 := As.mk (Kd.C_below HY.out hb2)
  have HS := As.mk hs
  have HB2 := As.mk (bt_ HB1.out hb2)
  clear hs hb2 HY HB1 i1 i2
  have hq : m ≤ 1000 := by
    rw [HM.out]
    unfold winP
    rw [if_pos (by omega)]
    have := winF_len a b (pairs a b) 0 0 0 0 (go_up a b _ 0 0 (by omega) (by omega))
    omega
  go_wp2_with fail
  go_loopg [8, 9, 10, 11] (b.length + 1) (fun g n fr be k w' => ∃ (N fi fk K : Nat) (W : World), n = .int .i64 N ∧ fr = .int .i64 fi ∧ be = .int .i64 fk ∧ k = .int .i64 K ∧ K ≤ b.length + 1 ∧ N ≤ 1000 ∧ fi ≤ 1000 ∧ fk ≤ 1000 ∧ As (b.length + 1 - K ≤ g) ∧ As (K ≤ b.length → LW a b K fi fk N) ∧ As (K = b.length + 1 → N = m) ∧ As (W = w') ∧ As (Below w2.heap.size w2 w'))
  case atStart => exact ⟨0, 0, 0, 0, w2, rfl, rfl, rfl, rfl, by omega, by omega, by omega, by omega, ⟨by omega⟩, ⟨fun _ => LW.start a b (by omega) (by omega)⟩, ⟨fun h => by omega⟩, ⟨rfl⟩, ⟨Below.refl _ _⟩⟩
  case round =>
    obtain ⟨N, fi, fk, K, W, rfl, rfl, rfl, rfl, hK, hN, hfi, hfk, HG, HL, HE, HW, HB⟩ := hrel
    have hW := HW.out
    subst hW
    clear HW
    by_cases hlt : K ≤ b.length
    · obtain ⟨g1, rfl⟩ : ∃ g1, gk = g1 + 1 := ⟨gk - 1, by have := HG.out; omega⟩
      by_cases hk : K < b.length
      · have k1 : (K : Int) ≤ (b.length : Int) := by omega
        have k2 : (K : Int) < (b.length : Int) := by omega
        obtain ⟨ad2, rfl, x0⟩ := Kd.at_int (Kd.C_below HY2.out HB.out) (K : Int) (by omega) (by omega)
        rw [staysY_at a b K hk, Int.toNat_natCast] at x0
        rcases (HL.out hlt).stay hk with ⟨e1, e2⟩ | ⟨p, e1, e2, e3, e4, e5⟩
        · rw [e1] at x0
          have HL2 := As.mk e2
          clear e1 e2
          go_wp2
          go_roundg g1
          case measure => omega
          case rel => exact ⟨N, fi, fk, K + 1, _, rfl, rfl, rfl, by go_num, by omega, hN, hfi, hfk, ⟨by have := HG.out; omega⟩, ⟨fun _ => HL2.out⟩, ⟨fun h => by omega⟩, ⟨rfl⟩, HB⟩
        · rw [e1] at x0
          rcases e5 with ⟨rfl, rfl, e5⟩ | ⟨e5, e6, e7⟩
          · have HL2 := As.mk e5
            clear e1 e2 e3 e5
            have p3 : fi + 1 ≤ 1000 := by omega
            have p1 : ¬ (fi : Int) < (fi : Int) := by omega
            go_wp2
            go_roundg g1
            case measure => omega
            case rel => exact ⟨N, fi + 1, fk + 1, fk + 1, _, rfl, by go_num, by go_num, by go_num, by omega, hN, by omega, by omega, ⟨by have := HG.out; omega⟩, ⟨fun _ => HL2.out⟩, ⟨fun h => by omega⟩, ⟨rfl⟩, HB⟩
          · have HL2 := As.mk e7
            have hNm : N < m := by rw [HM.out]; exact (List.getElem?_eq_some_iff.1 e6).1
            have n1 : (N : Int) < (m : Int) := by omega
            have hrd := rd_win e6
            obtain ⟨ad3, A6, c6, rfl, y0, y1, y2, hc6, hC6⟩ := at_T43 (Kd.C_below HS.out HB.out) (N : Int) (by omega) (by omega)
            rw [hrd] at y0 y1 y2 hc6 hC6
            simp only [Int.toNat_natCast] at y0 y1 y2 hc6 hC6
            obtain ⟨B', hcut, hcutC⟩ := cut_C (Kd.C_below HR1.out (bt_ HB2.out HB.out)) HC1.out e3 (by omega)
            have hlen : (cutB b fk K).length = K - fk := by simp [cutB]; omega
            have hI : ∀ nq, Calls Try.prog 16 #[.slice A6 (K - fk) c6, .slice B' (K - fk) (d - fk)] (W.drewN nq) fun e w' => e = .returned (.bool true) ∧ Drawn (W.drewN nq) w' := by
              intro nq
              have h1 := Hp.ints_any (cutB b fk K) (cutB b fk K) A6 B' c6 (d - fk) (W.drewN nq) (Kd.C_drewN hC6 _) hc6 (by rw [hlen]; exact Kd.C_drewN hcutC _) (by rw [hlen]; have := HC1.out; omega) (by rw [hlen]; omega)
              rw [decide_eq_true rfl, hlen] at h1
              exact h1
            have HI := As.mk hI
            rw [hlen] at y2
            have e3i : (fk : Int) ≤ (K : Int) := by omega
            clear e1 e2 e3 e6 e7 hrd hI hlen hcutC hC6 hc6
            have e5i : ((fi : Int) < (p : Int)) ∨ (¬ (fi : Int) < (p : Int) ∧ (fk : Int) < (K : Int)) := by omega
            clear e5
            rcases e5i with p1 | ⟨p1, p2⟩
            all_goals
              go_wp2
              go_quiet (first | (go_at_call 16; (with_reducible refine (HI.out _).mono ?_); rintro e w' ⟨rfl, ⟨nd, rfl⟩⟩; (try first | exact ⟨rfl, _, World.drewN_drewN _ _ _⟩ | exact ⟨rfl, _, Eq.trans (World.drewN_drewN _ _ _) (congrArg (World.drewN _) (Nat.add_assoc _ _ _))⟩)))
              go_wp2
              go_roundg g1
              case measure => omega
              case rel => exact ⟨N + 1, p + 1, K + 1, K + 1, _, by go_num, by go_num, by go_num, by go_num, by omega, by omega, by omega, by omega, ⟨by have := HG.out; omega⟩, ⟨fun _ => HL2.out⟩, ⟨fun h => by omega⟩, ⟨rfl⟩, ⟨pw_below_drewN HB.out _⟩⟩
      · obtain rfl : K = b.length := by omega
        obtain ⟨q1, q2, q3⟩ := (HL.out hlt).end_
        clear HL
        rcases q3 with ⟨rfl, q3, q4⟩ | ⟨e5, e6, e7⟩
        · have HM2 := As.mk (HM.out.trans q4)
          have k2 : ¬ (b.length : Int) < (b.length : Int) := by omega
          have p1 : ¬ (a.length : Int) < (a.length : Int) := by omega
          have p2 : ¬ (fk : Int) < (b.length : Int) := by omega
          have p3 : ¬ (b.length : Int) < (fk : Int) := by omega
          clear q3 q4 hk hlt
          go_wp2
          go_roundg g1
          case measure => omega
          case rel => exact ⟨N, a.length + 1, b.length + 1, b.length + 1, _, rfl, by go_num, by go_num, by go_num, by omega, hN, by omega, by omega, ⟨by have := HG.out; omega⟩, ⟨fun h => by omega⟩, ⟨fun h => HM2.out.symm⟩, ⟨rfl⟩, HB⟩
        · have HM2 := As.mk (HM.out.trans e7)
          have hNm : N < m := by rw [HM.out]; exact (List.getElem?_eq_some_iff.1 e6).1
          have n1 : (N : Int) < (m : Int) := by omega
          have hrd := rd_win e6
          obtain ⟨ad3, A6, c6, rfl, y0, y1, y2, hc6, hC6⟩ := at_T43 (Kd.C_below HS.out HB.out) (N : Int) (by omega) (by omega)
          rw [hrd] at y0 y1 y2 hc6 hC6
          simp only [Int.toNat_natCast] at y0 y1 y2 hc6 hC6
          obtain ⟨B', hcut, hcutC⟩ := cut_C (Kd.C_below HR1.out (bt_ HB2.out HB.out)) HC1.out q2 (Nat.le_refl _)
          have hlen : (cutB b fk b.length).length = b.length - fk := by simp [cutB]
          have hI : ∀ nq, Calls Try.prog 16 #[.slice A6 (b.length - fk) c6, .slice B' (b.length - fk) (d - fk)] (W.drewN nq) fun e w' => e = .returned (.bool true) ∧ Drawn (W.drewN nq) w' := by
            intro nq
            have h1 := Hp.ints_any (cutB b fk b.length) (cutB b fk b.length) A6 B' c6 (d - fk) (W.drewN nq) (Kd.C_drewN hC6 _) hc6 (by rw [hlen]; exact Kd.C_drewN hcutC _) (by rw [hlen]; have := HC1.out; omega) (by rw [hlen]; omega)
            rw [decide_eq_true rfl, hlen] at h1
            exact h1
          have HI := As.mk hI
          rw [hlen] at y2
          have k2 : ¬ (b.length : Int) < (b.length : Int) := by omega
          have e3i : (fk : Int) ≤ (b.length : Int) := by omega
          clear e6 e7 hrd hI hlen hcutC hC6 hc6 hk hlt
          have e5i : ((fi : Int) < (a.length : Int)) ∨ (¬ (fi : Int) < (a.length : Int) ∧ (fk : Int) < (b.length : Int)) := by omega
          clear e5
          rcases e5i with p1 | ⟨p1, p2⟩
          all_goals
            go_wp2
            go_quiet (first | (go_at_call 16; (with_reducible refine (HI.out _).mono ?_); rintro e w' ⟨rfl, ⟨nd, rfl⟩⟩; (try first | exact ⟨rfl, _, World.drewN_drewN _ _ _⟩ | exact ⟨rfl, _, Eq.trans (World.drewN_drewN _ _ _) (congrArg (World.drewN _) (Nat.add_assoc _ _ _))⟩)))
            go_wp2
            go_roundg g1
            case measure => omega
            case rel => exact ⟨N + 1, a.length + 1, b.length + 1, b.length + 1, _, by go_num, by go_num, by go_num, by go_num, by omega, by omega, by omega, by omega, ⟨by have := HG.out; omega⟩, ⟨fun h => by omega⟩, ⟨fun h => HM2.out.symm⟩, ⟨rfl⟩, ⟨pw_below_drewN HB.out _⟩⟩
    · obtain rfl : K = b.length + 1 := by omega
      obtain rfl := HE.out rfl
      have k1 : ¬ ((b.length + 1 : Nat) : Int) ≤ (b.length : Int) := by omega
      have HB5 := As.mk (bt_ HB2.out HB.out)
      clear HB
      go_wp2_with fail
      refine (awake_any _).mono ?_
      rintro e w7 ⟨rfl, hb7⟩
      have HB7 := As.mk (bt_ HB5.out hb7)
      clear hb7
      go_wp2
      go_ret
      exact ⟨rfl, HB7.out⟩
theorem law_windows {A : Option Addr} {c : Nat} {a : List Int} {B : Option Addr} {d : Nat} {b : List Int} {w : World} (hr0 : Kd.C (Kd.int .i64) w A a.length a) (hc0 : a.length ≤ c) (hr1 : Kd.C (Kd.int .i64) w B b.length b) (hc1 : b.length ≤ d) :
    Calls Try.prog 4 #[.slice A a.length c, .slice B b.length d] w fun e w' => e = .returned (.bool true) ∧ Below w.heap.size w w' := by
  by_cases h : 60 < a.length ∨ 60 < b.length
  · exact wbig h
  · exact wsmall hr0 hc0 hr1 hc1 (by omega) (by omega)
end Go.Proofs.Ytphdbombgljamaa.Df
