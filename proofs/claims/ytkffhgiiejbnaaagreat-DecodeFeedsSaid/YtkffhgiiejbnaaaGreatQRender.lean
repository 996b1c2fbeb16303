import Derived.Test.YtkffhgiiejbnaaaGreatQSetB
import Derived.Test.YtkffhgiiejbnaaaGreatQBld
set_option linter.unusedVariables false
set_option linter.unusedSimpArgs false
namespace Go.Proofs.YtkffhgiiejbnaaaGreat.Mk
open Go.RowKit Go.Proofs.YtkffhgiiejbnaaaGreatW.PrintWords Go.Proofs.YtkffhgiiejbnaaaGreatW.PrintLast Go.Proofs.YtkffhgiiejbnaaaGreatW.PrintMore Go.Proofs.YtkffhgiiejbnaaaGreat.Rf Go.Proofs.YtkffhgiiejbnaaaGreat.Aid Go.Proofs.YtkffhgiiejbnaaaGreat.Mp Go.Proofs.YtkffhgiiejbnaaaGreat.Bd
set_option linter.unusedVariables false
set_option linter.unusedSimpArgs false
set_option maxHeartbeats 400000
def rendF (H : Int → Sp × Bool) : List Int → Option (List UInt8)
  | [] => some []
  | n :: l => if 0 ≤ n ∧ n < 256 then (rendF H l).map (UInt8.ofNat n.toNat :: ·) else if (H n).2 = true then (rendF H l).map ((H n).1.f1.data.toList ++ ·) else none
theorem rend_byte {H : Int → Sp × Bool} {n : Int} {l : List Int} (h : 0 ≤ n ∧ n < 256) (acc : List UInt8) : (rendF H (n :: l)).map (acc ++ ·) = (rendF H l).map ((acc ++ [UInt8.ofNat n.toNat]) ++ ·) := by
  rw [rendF, if_pos h, Option.map_map]; congr 1; funext x; simp
theorem rend_mark {H : Int → Sp × Bool} {n : Int} {l : List Int} (h : ¬ (0 ≤ n ∧ n < 256)) (hH : (H n).2 = true) (acc : List UInt8) : (rendF H (n :: l)).map (acc ++ ·) = (rendF H l).map ((acc ++ (H n).1.f1.data.toList) ++ ·) := by
  rw [rendF, if_neg h, if_pos hH, Option.map_map]; congr 1; funext x; simp
theorem rend_none {H : Int → Sp × Bool} {n : Int} {l : List Int} (h : ¬ (0 ≤ n ∧ n < 256)) (hH : (H n).2 = false) : rendF H (n :: l) = none := by
  rw [rendF, if_neg h, if_neg (by simp [hH])]
def rendV (o : Option (List UInt8)) : Value := .tuple #[.string (match o with | some l => ⟨l.toArray⟩ | none => ⟨#[]⟩), .bool o.isSome]
theorem byteCells_snoc (l : List UInt8) (n : Int) (h : 0 ≤ n ∧ n < 256) : Lib.byteCells l ++ [.int .u8 n] = Lib.byteCells (l ++ [UInt8.ofNat n.toNat]) := by
  simp only [Lib.byteCells, List.map_append, List.map_cons, List.map_nil]
  congr 3
  obtain ⟨k, rfl⟩ := Int.eq_ofNat_of_zero_le h.1
  have : k % 256 = k := Nat.mod_eq_of_lt (by omega)
  simp [UInt8.toNat_ofNat, this]
theorem strCells_eq (s : ByteArray) : Lib.strCells s = Lib.byteCells s.data.toList := by rfl
theorem byteCells_app (l m : List UInt8) : Lib.byteCells l ++ Lib.byteCells m = Lib.byteCells (l ++ m) := by simp [Lib.byteCells]
theorem isB_below {T e B b : Nat} {bs : List Value} {w w' : World} (h : Lib.IsBuilder T e B b bs w) (hb : Below w.heap.size w w') : Lib.IsBuilder T e B b bs w' := by
  rcases h with ⟨h1, v, h2, h3, h4⟩ | ⟨h1, v, h2, h3, h4⟩
  · exact .inl ⟨h1, v, (hb.block _ (Array.getElem?_eq_some_iff.1 h2).1).trans h2, pw_own_below h3 hb, h4⟩
  · exact .inr ⟨h1, v, (hb.block _ (Array.getElem?_eq_some_iff.1 h2).1).trans h2, pw_own_below h3 hb, h4⟩
set_option maxRecDepth 100000 in
set_option maxHeartbeats 1000000 in
theorem render_of (sv : Value) (H : Int → Sp × Bool) (A : Option Addr) (c : Nat) (xs : List Int) (w : World) (hsz : ∀ n, (H n).1.f1.size ≤ 64)
    (hH : ∀ W n, Below w.heap.size w W → Calls Tryz.prog 97 #[sv, .int .i64 n] W fun e w' => e = .returned (.tuple #[spV (H n).1, .bool (H n).2]) ∧ Below W.heap.size W w')
    (hr : Kd.C (Kd.int .i64) w A xs.length xs) (hl : xs.length ≤ 1000000000000) :
    Calls Tryz.prog 105 #[sv, .slice A xs.length c] w fun e w' => e = .returned (rendV (rendF H xs)) ∧ Below w.heap.size w w' := by
  have HR := As.mk hr
  have HH := As.mk hH
  have HZ := As.mk hsz
  clear hr hH hsz
  obtain ⟨R, hR⟩ : ∃ R, rendF H xs = R := ⟨_, rfl⟩
  rw [hR]
  have HR0 := As.mk hR
  clear hR
  go_enter Tryz.func105, Tryz.ntmps105
  go_wp2_with fail
  have HB0 := As.mk (below_alloc (Below.refl w.heap.size w) (.cells #[.pointer none, .slice none 0 0] 230))
  have HI0 : As (Lib.IsBuilder 230 5 w.heap.size w.heap.size (Lib.byteCells []) (w.alloc (.cells #[.pointer none, .slice none 0 0] 230))) :=
    ⟨.inl ⟨Nat.le_refl _, .slice none 0 0, by show (w.heap.push _)[w.heap.size]? = _; rw [Array.getElem?_push, if_pos rfl], own_nil _ _ _ _, by simp [Value.ownBlock]⟩⟩
  generalize w.alloc (.cells #[.pointer none, .slice none 0 0] 230) = W0 at HB0 HI0 ⊢
  go_loopg [13] xs.length (fun k v w' => ∃ (i : Nat) (acc : List UInt8), v = .int .i64 i ∧ i ≤ xs.length ∧ As (Lib.IsBuilder 230 5 w.heap.size w.heap.size (Lib.byteCells acc) w') ∧ As ((rendF H (xs.drop i)).map (acc ++ ·) = R) ∧ As (xs.length - i ≤ k) ∧ As (acc.length ≤ i * 64) ∧ As (Below w.heap.size w w'))
  case atStart => exact ⟨0, [], rfl, Nat.zero_le _, HI0, ⟨by have := HR0.out; simpa using this⟩, ⟨by omega⟩, ⟨by simp⟩, HB0⟩
  case round =>
    clear HI0 HB0 HR0
    obtain ⟨i, acc, rfl, hi, HI, HA, HK, HL, HB⟩ := hrel
    by_cases hlt : i < xs.length
    · obtain ⟨k1, rfl⟩ : ∃ k1, gk = k1 + 1 := ⟨gk - 1, by have := HK.out; omega⟩
      have hltI : (i : Int) < xs.length := by omega
      have hcr := Kd.C_below HR.out HB.out
      have hcell := hcr.2.2 (by omega)
      obtain ⟨ad, rfl, hcell⟩ := hcell
      obtain ⟨cc, h1, h2, h3⟩ := hcell i (xs[i]) (by rw [List.getElem?_eq_getElem hlt])
      have x0 := h3 0 (.int .i64 xs[i]) (by rw [show cc = [.int .i64 xs[i]] from h2]; rfl)
      rw [show i * (Kd.int IntKind.i64).sz + 0 = i from by show i * 1 + 0 = i; omega] at x0
      clear hcr hcell h1 h2 h3
      have hd : xs.drop i = xs[i] :: xs.drop (i + 1) := List.drop_eq_getElem_cons hlt
      have HA1 := As.mk (show (rendF H (xs[i] :: xs.drop (i + 1))).map (acc ++ ·) = R from hd ▸ HA.out)
      clear HA hd
      generalize xs[i] = n at *
      by_cases hn : 0 ≤ n ∧ n < 256
      · have hA := HA1.out
        rw [rend_byte hn] at hA
        have HA := As.mk hA
        have HN := As.mk (byteCells_snoc acc n hn)
        obtain ⟨hn0, hn1⟩ := hn
        clear hA HA1
        go_wp2_with (go_at_call 136; refine (writeByte_any w.heap.size w.heap.size (Lib.byteCells acc) n _ HI.out (by rw [Lib.byteCells_length]; have := HL.out; omega) HB.out.size).mono ?_; rintro e w1 ⟨rfl, hI, hb⟩; rw [HN.out] at hI; have HI1 := As.mk (Or.inr hI : Lib.IsBuilder 230 5 w.heap.size w.heap.size _ w1); have HB1 := As.mk (HB.out.trans hb); clear hI hb HI HB)
        go_roundg k1
        case measure => omega
        case rel => exact ⟨i + 1, _, by go_num, by omega, HI1, HA, ⟨by have := HK.out; omega⟩, ⟨by have := HL.out; simp; omega⟩, HB1⟩
      · have hn' : 0 ≤ n → ¬ n < 256 := fun h0 h1 => hn ⟨h0, h1⟩
        cases hb2 : (H n).2 with
        | true =>
          have hA := HA1.out
          rw [rend_mark hn hb2] at hA
          have HA := As.mk hA
          have HS := As.mk (HH.out)
          have hz := HZ.out n
          have HN := As.mk hn
          clear hA HA1
          have HE := As.mk hb2
          have HZZ := As.mk (show (H n).1.f1.data.toList.length ≤ 64 by rw [← Lib.size_eq]; exact hz)
          clear hb2
          by_cases h0 : 0 ≤ n
          · have h1 := hn' h0
            clear hn hn'
            go_wp2_with (first
              | (go_at_call 97; refine (HS.out _ n HB.out).mono ?_; rintro e w1 ⟨rfl, hb⟩; rw [HE.out]; unfold spV; have HB1 := As.mk (bt_ HB.out hb); have HI1 := As.mk (isB_below HI.out hb); clear HB HI hb)
              | (go_at_call 137; refine (writeString_any w.heap.size w.heap.size (Lib.byteCells acc) (H n).1.f1 _ (isB_below HI1.out (below_alloc (Below.refl _ _) _)) (by rw [Lib.byteCells_length]; have := HL.out; omega) (below_alloc HB1.out _).size).mono ?_; rintro e w2 ⟨rfl, hI, hb⟩; rw [strCells_eq, byteCells_app] at hI; have HI2 := As.mk (Or.inr hI : Lib.IsBuilder 230 5 w.heap.size w.heap.size _ w2); have HB2 := As.mk ((below_alloc HB1.out _).trans hb); clear hI hb HI1 HB1))
            go_roundg k1
            case measure => omega
            case rel => exact ⟨i + 1, _, by go_num, by omega, HI2, HA, ⟨by have := HK.out; omega⟩, ⟨by have := HL.out; rw [List.length_append]; have := HZZ.out; omega⟩, HB2⟩
          · clear hn hn'
            go_wp2_with (first
              | (go_at_call 97; refine (HS.out _ n HB.out).mono ?_; rintro e w1 ⟨rfl, hb⟩; rw [HE.out]; unfold spV; have HB1 := As.mk (bt_ HB.out hb); have HI1 := As.mk (isB_below HI.out hb); clear HB HI hb)
              | (go_at_call 137; refine (writeString_any w.heap.size w.heap.size (Lib.byteCells acc) (H n).1.f1 _ (isB_below HI1.out (below_alloc (Below.refl _ _) _)) (by rw [Lib.byteCells_length]; have := HL.out; omega) (below_alloc HB1.out _).size).mono ?_; rintro e w2 ⟨rfl, hI, hb⟩; rw [strCells_eq, byteCells_app] at hI; have HI2 := As.mk (Or.inr hI : Lib.IsBuilder 230 5 w.heap.size w.heap.size _ w2); have HB2 := As.mk ((below_alloc HB1.out _).trans hb); clear hI hb HI1 HB1))
            go_roundg k1
            case measure => omega
            case rel => exact ⟨i + 1, _, by go_num, by omega, HI2, HA, ⟨by have := HK.out; omega⟩, ⟨by have := HL.out; rw [List.length_append]; have := HZZ.out; omega⟩, HB2⟩
        | false =>
          have hA := HA1.out
          rw [rend_none hn hb2] at hA
          simp only [Option.map_none] at hA
          subst hA
          have HS := As.mk (HH.out)
          have HE := As.mk hb2
          clear hb2 HA1
          by_cases h0 : 0 ≤ n
          · have h1 := hn' h0
            clear hn hn'
            go_wp2_with (go_at_call 97; refine (HS.out _ n HB.out).mono ?_; rintro e w1 ⟨rfl, hb⟩; rw [HE.out]; unfold spV; have HB1 := As.mk (bt_ HB.out hb); clear HB hb)
            go_ret2
            exact ⟨rfl, below_alloc HB1.out _⟩
          · clear hn hn'
            go_wp2_with (go_at_call 97; refine (HS.out _ n HB.out).mono ?_; rintro e w1 ⟨rfl, hb⟩; rw [HE.out]; unfold spV; have HB1 := As.mk (bt_ HB.out hb); clear HB hb)
            go_ret2
            exact ⟨rfl, below_alloc HB1.out _⟩
    · obtain rfl : i = xs.length := by omega
      have hA := HA.out
      rw [List.drop_length] at hA
      simp only [rendF, Option.map_some, List.append_nil] at hA
      subst hA
      have hge : ¬ (xs.length : Int) < xs.length := by omega
      go_wp2_with (go_at_call 138; refine (Tryz.Builder_String_any w.heap.size w.heap.size acc _ HI.out HB.out.size).mono ?_; rintro e w1 ⟨rfl, hb⟩; have HB1 := As.mk (HB.out.trans hb); clear hb HB)
      go_ret2
      exact ⟨rfl, HB1.out⟩
end Go.Proofs.YtkffhgiiejbnaaaGreat.Mk
