import Derived.Test.YtkffhgiiejbnaaaGreatZVocC
import Derived.Test.YtkffhgiiejbnaaaGreatZ01
import Derived.Test.YtkffhgiiejbnaaaGreatZOf
import Derived.Test.YtkffhgiiejbnaaaGreatZ04
import Derived.Test.YtkffhgiiejbnaaaGreatZ02
import Derived.Test.YtkffhgiiejbnaaaGreatZEncN
import Derived.Test.YtkffhgiiejbnaaaGreatZRefK
import Derived.Test.YtkffhgiiejbnaaaGreatZRF21
import Derived.Test.YtkffhgiiejbnaaaGreatZMarkRef
set_option maxRecDepth 100000
set_option maxHeartbeats 4000000
set_option linter.unusedVariables false
set_option linter.unusedSimpArgs false
set_option linter.unnecessarySimpa false
namespace Go.Proofs.YtkffhgiiejbnaaaGreat.Dc
open Go.Shelf Go.RowKit YtkffhgiiejbnaaaGreatW.PrintWords YtkffhgiiejbnaaaGreatW.PrintLast YtkffhgiiejbnaaaGreatW.PrintMore Rf Aid Mp Hp Tk Vc
theorem itF_err (s : Sp) : ∀ (l : List Int) (n : Nat) (xs : List Int), (itF s l n xs).2.2 = 0 ∨ ((itF s l n xs).2.2 = 4 ∧ (itF s l n xs).1 = [])
 | [], n, xs => .inl rfl
 | id :: l, n, xs => by
  unfold itF
  split
  ·exact itF_err s l _ _
  ·exact .inr ⟨rfl, rfl⟩
theorem itF_len (s : Sp) (h : ∀ id, (itemsOf s id).length ≤ 64) : ∀ (l : List Int) (n : Nat) (xs : List Int), (itF s l n xs).1.length ≤ xs.length + 64 * l.length
 | [], n, xs => by simp [itF]
 | id :: l, n, xs => by
  unfold itF
  split
  ·have h1 := itF_len s h l (n + 1) (xs ++ itemsOf s id)
   have h2 := h id
   rw [List.length_append] at h1
   rw [List.length_cons]
   omega
  ·simp
def rendS (X : List Mk.Sp) (xs : List Int) : ByteArray := match Mk.rendF (Mk.hasP X) xs with | some l => ⟨l.toArray⟩ | none => ⟨#[]⟩
theorem rendV_eq (X : List Mk.Sp) (xs : List Int) : Mk.rendV (Mk.rendF (Mk.hasP X) xs) = .tuple #[.string (rendS X xs), .bool (Mk.rendF (Mk.hasP X) xs).isSome] := by
 unfold Mk.rendV rendS
 cases Mk.rendF (Mk.hasP X) xs <;> rfl
theorem used_below {w : World} {v : Nat} {w1 w2 : World} (h : Used w v w1) (hb : Below w1.heap.size w1 w2) : Used w v w2 := by
 obtain ⟨m, hm⟩ := h
 exact ⟨m, hm.trans (hb.mono (by rw [← set_size w ⟨v, 13, none⟩ (.int .i64 m)]; exact hm.size))⟩
def textF (s : Sp) (ids : List Int) : ByteArray := if (itF s ids 0 []).2.2 = 0 then rendS s.X (itF s ids 0 []).1 else ⟨#[]⟩
theorem text_any {w : World} {v : Nat} {s : Sp} (h : VocAt w v s) (A : Option Addr) (c : Nat) (ids : List Int) (hr : ∀ m : Int, Kd.C (Kd.int .i64) (w.setCell ⟨v, 13, none⟩ (.int .i64 m)) A ids.length ids) (hl : ids.length ≤ 4000) :
  Calls Tryz.prog 76 #[.pointer (some ⟨v, 0, none⟩), .slice A ids.length c] w fun e w' => e = .returned (.tuple #[.string (textF s ids), .int .i64 (itF s ids 0 []).2.1, .int .i64 (itF s ids 0 []).2.2]) ∧ VocAt w' v s ∧ Used w v w' := by
 have HI := As.mk (items_any h A c ids hr (by omega))
 have hlen := itF_len s (items_len h) ids 0 []
 have hle : ¬ (4000 : Int) < (ids.length : Int) := by omega
 have he := itF_err s ids 0 []
 clear h hr
 unfold textF
 generalize itF s ids 0 [] = R at *
 obtain ⟨xs, n, e0⟩ := R
 simp only at *
 have HL := As.mk (show xs.length ≤ 1000000000000 by simp at hlen; omega)
 clear hlen
 rcases he with rfl | ⟨rfl, rfl⟩
 ·rw [if_pos rfl]
  generalize hSS : rendS s.X xs = S
  have HSS := As.mk hSS
  clear hSS
  go_enter Tryz.func76, Tryz.ntmps76
  go_wp2_with (first
   | (go_at_call 29; refine HI.out.mono ?_; rintro e w1 ⟨sv, rfl, ho, hv, hu⟩; obtain ⟨A2, c2, rfl⟩ := Kd.R_slice ho; have HC := As.mk (Kd.R_reads' ho).2.2; have HV := As.mk hv; have HU := As.mk hu; clear ho hv hu HI)
   | (go_at_call 67; refine (marks_any HV.out).mono ?_; rintro e w2 ⟨pm, rfl, hp, rfl⟩; have HP := As.mk hp; clear hp)
   | (go_at_call 105; have hren := Mk.render_any HP.out A2 c2 xs HC.out HL.out; rw [rendV_eq, HSS.out] at hren; generalize (Mk.rendF (Mk.hasP s.X) xs).isSome = bS at *; refine hren.mono ?_; clear hren; rintro e w3 ⟨rfl, hb⟩; have HB := As.mk hb; clear hb))
  go_ret3
  exact ⟨rfl, HV.out.below HB.out, used_below HU.out HB.out⟩
 ·rw [if_neg (by decide)]
  go_enter Tryz.func76, Tryz.ntmps76
  go_wp2_with (go_at_call 29; refine HI.out.mono ?_; rintro e w1 ⟨sv, rfl, ho, hv, hu⟩; have HV := As.mk hv; have HU := As.mk hu; clear ho hv hu HI)
  go_ret3
  exact ⟨rfl, HV.out, HU.out⟩
end Go.Proofs.YtkffhgiiejbnaaaGreat.Dc
namespace Go.Proofs.YtkffhgiiejbnaaaGreat.Rt
open Go.RowKit YtkffhgiiejbnaaaGreatW.PrintWords YtkffhgiiejbnaaaGreatW.PrintLast YtkffhgiiejbnaaaGreatW.PrintMore Rf Aid Mp Hp Tk Vc Dc
theorem great9 (X : List S93) (hX : X.length ≤ 9223372036854775807) : ∀ (d k i : Nat), X.length - i = d → d < k → i ≤ X.length → ∃ g, ligatureref09_Great.l0 k X (i : Int) = some g
 | 0, k, i, h0, h1, h2 => by
  obtain ⟨k, rfl⟩ : ∃ m, k = m + 1 := ⟨k - 1, by omega⟩
  simp only [ligatureref09_Great.l0]
  rw [if_neg (by omega)]
  exact ⟨_, rfl⟩
 | d + 1, k, i, h0, h1, h2 => by
  obtain ⟨k, rfl⟩ : ∃ m, k = m + 1 := ⟨k - 1, by omega⟩
  simp only [ligatureref09_Great.l0]
  rw [if_pos (by omega), if_pos (by omega)]
  split
  ·exact ⟨_, rfl⟩
  ·rw [w64 (by omega) (by omega), show ((i : Int) + 1) = ((i + 1 : Nat) : Int) from by omega]
   exact great9 X hX d k (i + 1) (by omega) (by omega) (by omega)
theorem great_some (L : List Int) (C : List S165) (J : List S108) (X : List S93) (hX : X.length ≤ 9223372036854775807) : ∃ g : Int, ligaturelaw12_Great.f (X.length + 1) L C J X = some g ∧ (g = 0 ∨ g = 1) := by
 obtain ⟨g, hg⟩ := great9 X hX X.length (X.length + 1) 0 (by omega) (by omega) (by omega)
 have hg : ligatureref09_Great.f (X.length + 1) X = some g := hg
 unfold ligaturelaw12_Great.f ligatureref10_Great.f
 rw [hg]
 by_cases h1 : (L.length : Int) > 60
 ·rw [if_pos h1]; exact ⟨1, rfl, .inr rfl⟩
 rw [if_neg h1]
 by_cases h2 : (C.length : Int) > 20
 ·rw [if_pos h2]; exact ⟨1, rfl, .inr rfl⟩
 rw [if_neg h2]
 by_cases h3 : (J.length : Int) > 20
 ·rw [if_pos h3]; exact ⟨1, rfl, .inr rfl⟩
 rw [if_neg h3]
 cases g
 ·exact ⟨0, rfl, .inl rfl⟩
 ·exact ⟨1, rfl, .inr rfl⟩
theorem great_any {A0 A1 A2 A3 : Option Addr} {c0 c1 c2 c3 : Nat} {L : List Int} {C : List S165} {J : List S108} {X : List S93} {w : World} (h : CaseAt w A0 A1 A2 A3 c0 c1 c2 c3 L C J X) :
  ∃ g : Int, (g = 0 ∨ g = 1) ∧ ∀ W, Below w.heap.size w W → Calls Tryz.prog 13 #[caseV A0 A1 A2 A3 c0 c1 c2 c3 L C J X] W fun e w' => e = .returned (.int .i64 g) ∧ Below W.heap.size W w' := by
 obtain ⟨g, hg, h01⟩ := great_some L C J X h.hX.2.1
 refine ⟨g, h01, fun W hW => ?_⟩
 have h' := h.below hW
 exact ligaturelaw12_Great.calls _ A0 c0 L A1 c1 C A2 c2 J A3 c3 X g W h'.hL h'.h0 h'.hC h'.h1 h'.hJ h'.h2 h'.hX h'.h3 hg
def badF (s : Vc.Sp) (ids : List Int) : Option Nat := ids.findIdx? (fun id => !hasId s id)
def itL (s : Vc.Sp) (ids : List Int) : List Int := (ids.map (itemsOf s)).flatten
theorem itF_bad (s : Vc.Sp) : ∀ (ids : List Int) (n : Nat) (xs : List Int), itF s ids n xs = match badF s ids with | some i => ([], n + i, 4) | none => (xs ++ itL s ids, n + ids.length, 0)
 | [], n, xs => by simp [itF, badF, itL]
 | id :: l, n, xs => by
  unfold itF badF
  rw [List.findIdx?_cons]
  cases h : hasId s id with
  | false => simp
  | true =>
   rw [if_pos rfl, itF_bad s l (n + 1) (xs ++ itemsOf s id)]
   unfold badF
   cases l.findIdx? fun id => !hasId s id with
   | none => simp [itL]; omega
   | some i => simp; omega
end Go.Proofs.YtkffhgiiejbnaaaGreat.Rt
namespace Go.Proofs.YtkffhgiiejbnaaaGreat.Rt
open Go.RowKit YtkffhgiiejbnaaaGreatW.PrintWords YtkffhgiiejbnaaaGreatW.PrintLast YtkffhgiiejbnaaaGreatW.PrintMore Rf Aid Mp Hp Tk Vc Bn En
theorem venc_any {w : World} {v : Nat} {A0 B0 A3 A4 A5 : Option Addr} {c0 d0 c3 c4 c5 : Nat} {s : Vc.Sp} (h : RefAt w v A0 B0 A3 A4 A5 c0 d0 c3 c4 c5 s) (hok : VOk s) (A : Option Addr) (c : Nat) (items : List Int) (hr : Kd.C (Kd.int .i64) w A items.length items) (hc : items.length ≤ c) (hl : items.length ≤ 5000) (hri : ∀ x ∈ items, rightP s x = true) :
  Calls Tryz.prog 21 #[vV A0 B0 A3 A4 A5 c0 d0 c3 c4 c5 (tabOf s).1 s, .slice A items.length c] w fun e w' => ∃ v0 : Value, e = .returned v0 ∧ Kd.R (Kd.int .i64) 3 w' w.heap.size (fun _ => True) v0 (tokL s items) ∧ Below w.heap.size w w' := by
 have ht := h.tab
 obtain ⟨k, hk⟩ := enc_some hok hri hl
 exact ligatureref10_Vocab_Encode.calls k A0 c0 _ B0 d0 _ A4 c4 s.C A5 c5 s.J A3 c3 s.X A c items _ w ht.b ht.hb ht.m ht.hm (Kd.R_reads' h.C).2.2 (Kd.R_reads' h.C).2.1 (Kd.R_reads' h.J).2.2 (Kd.R_reads' h.J).2.1 (Kd.R_reads' h.X).2.2 (Kd.R_reads' h.X).2.1 hr hc hk
end Go.Proofs.YtkffhgiiejbnaaaGreat.Rt
namespace Go.Proofs.YtkffhgiiejbnaaaGreat.Rt
open Go.RowKit YtkffhgiiejbnaaaGreatW.PrintWords YtkffhgiiejbnaaaGreatW.PrintLast YtkffhgiiejbnaaaGreatW.PrintMore Rf Aid Mp Hp Tk Vc Ch En Bn
theorem bytesI_data (s : ByteArray) : bytesI s = s.data.toList.map (fun u => (u.toNat : Int)) := by
 unfold bytesI
 apply List.ext_getElem?
 intro i
 rw [List.getElem?_map, List.getElem?_map]
 by_cases h : i < s.size
 ·have h2 : i < s.data.toList.length := h
  rw [List.getElem?_range h, List.getElem?_eq_getElem h2]
  have := bt_at s (i : Int) (by simpa using h)
  simp only [Int.toNat_natCast] at this
  show some (bt s (i : Int)) = some ((s.data.toList[i].toNat : Int))
  rw [← this]
  rfl
 ·have h2 : ¬ i < s.data.toList.length := h
  rw [List.getElem?_eq_none (by simp; omega), List.getElem?_eq_none (by omega)]
  rfl
theorem bytesI_app (a b : ByteArray) : bytesI (a ++ b) = bytesI a ++ bytesI b := by
 rw [bytesI_data, bytesI_data, bytesI_data, ByteArray.data_append, Array.toList_append, List.map_append]
def flatI (E : List Ent) (l : List Int) : List Int := (l.map (fun id => bytesI (byt E id))).flatten
theorem flatI_cons (E : List Ent) (x : Int) (l : List Int) : flatI E (x :: l) = bytesI (byt E x) ++ flatI E l := rfl
theorem pass_flat {E : List Ent} {a b id : Int} (h : byt E id = byt E a ++ byt E b) : ∀ l : List Int, flatI E (passL a b id l) = flatI E l
 | [] => rfl
 | [x] => rfl
 | x :: y :: l => by
  rw [passL_two]
  split
  ·rename_i hc
   rw [flatI_cons, pass_flat h l, flatI_cons, flatI_cons, h, bytesI_app, List.append_assoc, hc.1, hc.2]
  ·rw [flatI_cons, pass_flat h (y :: l)]; rfl
theorem pass_has {E : List Ent} {a b id : Int} (hi : hasE E id = true) : ∀ l : List Int, (∀ x ∈ l, hasE E x = true) → ∀ x ∈ passL a b id l, hasE E x = true
 | [], h, x, hx => by cases hx
 | [y], h, x, hx => h x hx
 | y :: z :: l, h, x, hx => by
  rw [passL_two] at hx
  split at hx
  ·rcases List.mem_cons.1 hx with rfl | hx
   ·exact hi
   ·exact pass_has hi l (fun q hq => h q (List.mem_cons_of_mem _ (List.mem_cons_of_mem _ hq))) x hx
  ·rcases List.mem_cons.1 hx with rfl | hx
   ·exact h _ List.mem_cons_self
   ·exact pass_has hi (z :: l) (fun q hq => h q (List.mem_cons_of_mem _ hq)) x hx
theorem enc_flat {E : List Ent} (hG : Tk.Good E) : ∀ (d i : Nat) (l : List Int), 256 ≤ i → E.length - i = d → (∀ x ∈ l, hasE E x = true) →
  flatI E (encR ((E.drop i).map (fun x => (x.f1, x.f2))) (i : Int) l) = flatI E l ∧ ∀ x ∈ encR ((E.drop i).map (fun x => (x.f1, x.f2))) (i : Int) l, hasE E x = true
 | 0, i, l, h1, h2, h => by rw [List.drop_eq_nil_of_le (by omega)]; exact ⟨rfl, h⟩
 | d + 1, i, l, h1, h2, h => by
  have hlt : i < E.length := by omega
  rw [List.drop_eq_getElem_cons hlt, List.map_cons]
  obtain ⟨p1, p2, p3, p4, p5⟩ := hG.par i hlt h1
  have hb : byt E (i : Int) = byt E (E[i]).f1 ++ byt E (E[i]).f2 := by rw [byt_at hlt, p5]; rfl
  have hi : hasE E (i : Int) = true := decide_eq_true ⟨by omega, by omega⟩
  have ih := enc_flat hG d (i + 1) (passL (E[i]).f1 (E[i]).f2 (i : Int) l) (by omega) (by omega) (pass_has hi l h)
  rw [pass_flat hb l] at ih
  rw [show ((i + 1 : Nat) : Int) = (i : Int) + 1 by omega] at ih
  exact ih
theorem byt_byte {E : List Ent} (hG : Tk.Good E) {x : Int} (h : 0 ≤ x ∧ x < 256) : bytesI (byt E x) = [x] ∧ hasE E x = true := by
 have hm := hG.many
 obtain ⟨n, rfl⟩ := Int.eq_ofNat_of_zero_le h.1
 have hn : n < 256 := by omega
 have hlt : n < E.length := by omega
 have he : E[n] = byteE n := by
  have h1 : (E.take 256)[n]? = some E[n] := by rw [List.getElem?_take, if_pos hn, List.getElem?_eq_getElem hlt]
  rw [hG.first] at h1
  unfold byteL at h1
  rw [List.getElem?_map, List.getElem?_range hn] at h1
  injection h1 with h1
  exact h1.symm
 refine ⟨?_, decide_eq_true ⟨by omega, by omega⟩⟩
 rw [byt_at hlt, he, bytesI_data]
 show [((UInt8.ofNat n).toNat : Int)] = [(n : Int)]
 rw [UInt8.toNat_ofNat', Nat.mod_eq_of_lt (by omega)]
theorem flat_raw {E : List Ent} (hG : Tk.Good E) : ∀ l : List Int, (∀ x ∈ l, 0 ≤ x ∧ x < 256) → flatI E l = l ∧ ∀ x ∈ l, hasE E x = true
 | [], h => ⟨rfl, fun x hx => by cases hx⟩
 | x :: l, h => by
  have h1 := byt_byte hG (h x List.mem_cons_self)
  have h2 := flat_raw hG l (fun q hq => h q (List.mem_cons_of_mem _ hq))
  refine ⟨by rw [flatI_cons, h1.1, h2.1]; rfl, fun q hq => ?_⟩
  rcases List.mem_cons.1 hq with rfl | hq
  ·exact h1.2
  ·exact h2.2 q hq
theorem encS_flat {E : List Ent} (hG : Tk.Good E) {p : List Int} (hb : ∀ x ∈ p, 0 ≤ x ∧ x < 256) : flatI E (encS E (strOfNums p)) = p ∧ ∀ x ∈ encS E (strOfNums p), hasE E x = true := by
 have h0 := flat_raw hG p hb
 have h1 := enc_flat hG (E.length - 256) 256 p (Nat.le_refl _) rfl h0.2
 unfold encS rules
 rw [str_bytes hb]
 exact ⟨h1.1.trans h0.1, h1.2⟩
theorem idx_none {s : Vc.Sp} (hok : VOk s) {x : Int} (h : hasE (tabOf s).1 x = true) : Mk.idxI s.X x = none := by
 unfold Mk.idxI
 rw [List.findIdx?_eq_none_iff]
 intro y hy
 have h1 := hok.ids y hy
 have h2 : 0 ≤ x ∧ x < ((tabOf s).1.length : Int) := of_decide_eq_true h
 exact decide_eq_false (by omega)
theorem items_tok {s : Vc.Sp} (hok : VOk s) : ∀ l : List Int, (∀ x ∈ l, hasE (tabOf s).1 x = true) → itL s l = flatI (tabOf s).1 l ∧ ∀ x ∈ l, hasId s x = true
 | [], h => ⟨rfl, fun x hx => by cases hx⟩
 | x :: l, h => by
  have hx := h x List.mem_cons_self
  have ih := items_tok hok l (fun q hq => h q (List.mem_cons_of_mem _ hq))
  have e : itemsOf s x = bytesI (byt (tabOf s).1 x) := by unfold itemsOf; rw [idx_none hok hx]; show bytesI (if _ then _ else _) = _; rw [if_pos hx]
  refine ⟨?_, fun q hq => ?_⟩
  ·show itemsOf s x ++ itL s l = bytesI _ ++ flatI _ l
   rw [e, ih.1]
  ·rcases List.mem_cons.1 hq with rfl | hq
   ·unfold hasId; rw [hx]; simp
   ·exact ih.2 q hq
theorem items_mark {s : Vc.Sp} (hg : Mk.GoodS s.X) {m : Int} (h0 : m < 0) (h1 : -(s.X.length : Int) ≤ m) : itemsOf s (Mk.hasP s.X m).1.f0 = [m] ∧ hasId s (Mk.hasP s.X m).1.f0 = true := by
 obtain ⟨n, hn⟩ : ∃ n : Nat, -1 - m = (n : Int) := Int.eq_ofNat_of_zero_le (by omega)
 have hlt : n < s.X.length := by omega
 rw [rdX h0 h1, hn]
 have e : rd_T93 s.X (n : Int) = s.X[n] := by unfold rd_T93; rw [Int.toNat_natCast, List.getD_eq_getElem?_getD, List.getElem?_eq_getElem hlt]; rfl
 have hi : Mk.idxI s.X (s.X[n]).f0 = some n := by
  unfold Mk.idxI
  rw [List.findIdx?_eq_some_iff_getElem]
  refine ⟨hlt, by simp, fun j hj => ?_⟩
  have hd := hg.apartI
  rw [List.nodup_iff_pairwise_ne, List.pairwise_iff_getElem] at hd
  have := hd j n (by rw [List.length_map]; omega) (by rw [List.length_map]; exact hlt) hj
  rw [List.getElem_map, List.getElem_map] at this
  simpa using this
 rw [e]
 refine ⟨?_, by unfold hasId; rw [hi]; rfl⟩
 unfold itemsOf
 rw [hi]
 show [-1 - (n : Int)] = [m]
 congr 1
 omega
theorem piece_back {s : Vc.Sp} (hok : VOk s) (hg : Mk.GoodS s.X) {p : List Int} (hp : PieceOk s p) (hr : ∀ x ∈ p, rightP s x = true) : itL s (pieceT s p) = p ∧ ∀ x ∈ pieceT s p, hasId s x = true := by
 obtain ⟨h0, ⟨a, rfl, ha⟩ | hb⟩ := hp
 ·have hge := (by have h := hr a List.mem_cons_self; unfold rightP at h; simp at h; omega : -(s.X.length : Int) ≤ a)
  have h := items_mark hg ha hge
  rw [pieceT_cons, if_pos ha]
  refine ⟨?_, fun x hx => by rw [List.mem_singleton.1 hx]; exact h.2⟩
  show itemsOf s _ ++ [] = [a]
  rw [h.1]; rfl
 ·have h := encS_flat (good_of s) hb
  rw [pieceT_bytes h0 hb]
  have h2 := items_tok hok _ h.2
  exact ⟨h2.1.trans h.1, h2.2⟩
theorem itL_app (s : Vc.Sp) (l m : List Int) : itL s (l ++ m) = itL s l ++ itL s m := by unfold itL; rw [List.map_append, List.flatten_append]
theorem back_run {s : Vc.Sp} (hok : VOk s) (hg : Mk.GoodS s.X) : ∀ (f : Nat) (xs : List Int), xs.length ≤ f → (∀ x ∈ xs, rightP s x = true) → itL s ((pcsL s f xs).flatMap (pieceT s)) = xs ∧ ∀ x ∈ (pcsL s f xs).flatMap (pieceT s), hasId s x = true
 | 0, xs, hl, hr => by
  obtain rfl : xs = [] := List.eq_nil_of_length_eq_zero (by omega)
  exact ⟨rfl, fun x hx => by cases hx⟩
 | f + 1, xs, hl, hr => by
  by_cases h0 : xs = []
  ·subst h0; exact ⟨rfl, fun x hx => by cases hx⟩
  ·have hp := cutN_pos s h0
   have hle := cutN_le s xs
   have hcons : pcsL s (f + 1) xs = xs.take (cutN s xs) :: pcsL s f (xs.drop (cutN s xs)) := by
    conv => lhs; unfold pcsL
    rw [if_neg h0]
   have ih := back_run hok hg f (xs.drop (cutN s xs)) (by rw [List.length_drop]; omega) (fun x hx => hr x (List.mem_of_mem_drop hx))
   have hok1 : PieceOk s (xs.take (cutN s xs)) := by
    have := pcsF_ok (s := s) (f + 1) none 0 xs hr
    rw [pcsF_cons h0] at this
    exact this _ List.mem_cons_self
   have hb := piece_back hok hg hok1 (fun x hx => hr x (List.mem_of_mem_take hx))
   rw [hcons, List.flatMap_cons, itL_app, hb.1, ih.1, List.take_append_drop]
   refine ⟨rfl, fun x hx => ?_⟩
   rcases List.mem_append.1 hx with hx | hx
   ·exact hb.2 x hx
   ·exact ih.2 x hx
theorem tok_back {s : Vc.Sp} (hok : VOk s) (hg : Mk.GoodS s.X) {items : List Int} (hr : ∀ x ∈ items, rightP s x = true) : itF s (tokL s items) 0 [] = (items, (tokL s items).length, 0) := by
 have h := back_run hok hg items.length items (Nat.le_refl _) hr
 rw [itF_bad]
 have hb : badF s (tokL s items) = none := by
  unfold badF
  rw [List.findIdx?_eq_none_iff]
  intro x hx
  rw [h.2 x hx]
  rfl
 rw [hb]
 show ([] ++ itL s (tokL s items), 0 + (tokL s items).length, 0) = _
 rw [List.nil_append, Nat.zero_add]
 unfold tokL at h ⊢
 rw [h.1]
end Go.Proofs.YtkffhgiiejbnaaaGreat.Rt
namespace Go.Proofs.YtkffhgiiejbnaaaGreat.Rt
open Go.RowKit YtkffhgiiejbnaaaGreatW.PrintWords YtkffhgiiejbnaaaGreatW.PrintLast YtkffhgiiejbnaaaGreatW.PrintMore Rf Aid Mp Hp Tk Vc Bn En
theorem VocAt.goodX {w : World} {v : Nat} {s : Sp} (h : VocAt w v s) : Mk.GoodS s.X := by
 obtain ⟨_, _, w0, pt, pb, pm, h1, h2, h3, h4, h5, h6, h7, h8⟩ := h
 exact h5.goodS
theorem used_under {w w' : World} {v base : Nat} (hu : Used w v w') (h1 : base ≤ v) (h2 : base ≤ w.heap.size) : Below base w w' := by
 obtain ⟨m, hm⟩ := hu
 exact ((Below.refl base w).setCell (p := ⟨v, 13, none⟩) h1 _).trans (hm.mono h2)
def Ro (w : World) (v : Value) (xs : List Int) : Prop := Kd.R (Kd.int .i64) 3 w 0 (fun _ => True) v xs
theorem Ro.of {w : World} {b : Nat} {v : Value} {xs : List Int} (h : Kd.R (Kd.int .i64) 3 w b (fun _ => True) v xs) : Ro w v xs := Kd.R_lower h (Nat.zero_le _)
theorem Ro.below {w w' : World} {v : Value} {xs : List Int} (h : Ro w v xs) (hb : Below w.heap.size w w') : Ro w' v xs := Kd.R_below h hb
theorem Ro.form {w : World} {v : Value} {xs : List Int} (h : Ro w v xs) : ∃ A c, v = .slice A xs.length c := Kd.R_slice h
theorem Ro.rd {w : World} {A : Option Addr} {n c : Nat} {xs : List Int} (h : Ro w (.slice A n c) xs) : n = xs.length ∧ n ≤ c ∧ Kd.C (Kd.int .i64) w A xs.length xs := Kd.R_reads' h
theorem Ro.set {w : World} {v : Nat} {s : Sp} {u : Value} {xs : List Int} (h : Ro w u xs) (hv : VocAt w v s) (m : Value) : Ro (w.setCell ⟨v, 13, none⟩ m) u xs := by
 obtain ⟨cs, hb⟩ := hv.blk
 exact Kd.R_set h hb (by decide) 13 m
theorem Ro.used {w w' : World} {v : Nat} {s : Sp} {u : Value} {xs : List Int} (h : Ro w u xs) (hv : VocAt w v s) (hu : Used w v w') : Ro w' u xs := by
 obtain ⟨m, hm⟩ := hu
 exact (h.set hv (.int .i64 m)).below (by rw [set_size w ⟨v, 13, none⟩ (.int .i64 m)]; exact hm)
theorem ints_row {xs : List Int} {n k : Nat} {A B : Option Addr} {c d : Nat} {w : World} (ha : Ro w (.slice A n c) xs) (hb : Ro w (.slice B k d) xs) (hl : xs.length ≤ 1000000) :
  Calls Tryz.prog 20 #[.slice A n c, .slice B k d] w fun e w' => e = .returned (.bool true) ∧ Below w.heap.size w w' := by
 obtain ⟨e1, h1, h2⟩ := ha.rd
 obtain ⟨e2, h3, h4⟩ := hb.rd
 subst e1
 subst e2
 exact ints_same rfl A B c d w h2 h1 h4 h3 (by omega)
theorem vitems_tok {w : World} {v : Nat} {s : Sp} (hv : VocAt w v s) (hok : VOk s) {A : Option Addr} {n c : Nat} {items : List Int} (ha : Ro w (.slice A n c) (tokL s items)) (hr : ∀ x ∈ items, rightP s x = true) (hl : items.length ≤ 1000) :
  Calls Tryz.prog 29 #[.pointer (some ⟨v, 0, none⟩), .slice A n c] w fun e w' => ∃ (sv : Value) (q : Int), e = .returned (.tuple #[sv, .int .i64 q, .int .i64 0]) ∧ Ro w' sv items ∧ VocAt w' v s ∧ Used w v w' := by
 obtain ⟨e1, h1, h2⟩ := ha.rd
 subst e1
 have hl2 := tok_len s items
 have h := Vc.items_any hv A c (tokL s items) (fun m => (Ro.rd (ha.set hv (.int .i64 m))).2.2) (by omega)
 rw [tok_back hok (VocAt.goodX hv) hr] at h
 refine h.mono ?_
 rintro e w' ⟨sv, rfl, ho, hv', hu⟩
 exact ⟨sv, _, rfl, Ro.of ho, hv', hu⟩
theorem encodeTexts_any {A0 A1 A2 A3 : Option Addr} {c0 c1 c2 c3 : Nat} {L : List Int} {C : List S165} {J : List S108} {X : List S93} {w : World} (h : CaseAt w A0 A1 A2 A3 c0 c1 c2 c3 L C J X) (t : ByteArray) :
  Calls Tryz.prog 7 #[caseV A0 A1 A2 A3 c0 c1 c2 c3 L C J X, .string t] w fun e w' => e = .returned (.bool true) ∧ Below w.heap.size w w' := by
 obtain ⟨g, hg01, hG⟩ := great_any h
 have HG := As.mk hG
 have HC := As.mk h
 clear hG h
 have HB0 := As.mk (below_alloc (Below.refl w.heap.size w) (.cells #[.slice A0 L.length c0, .slice A1 C.length c1, .slice A2 J.length c2, .slice A3 X.length c3] 27))
 have HK0 := As.mk (Go.MapKept.heap_alloc w (.cells #[.slice A0 L.length c0, .slice A1 C.length c1, .slice A2 J.length c2, .slice A3 X.length c3] 27)).1
 unfold caseV at HG ⊢
 have hearly : (g = 1 ∨ (g = 0 ∧ 300 < t.size ∧ t.size ≤ 4000)) ∨ (g = 0 ∧ (t.size ≤ 300 ∨ 4000 < t.size)) := by omega
 rcases hearly with he | ⟨rfl, hn⟩
 ·have go : ∀ (he : (g = 1) ∨ (g = 0 ∧ (300 : Int) < (t.size : Int) ∧ (t.size : Int) ≤ 4000)), Calls Tryz.prog 7 #[.agg #[.slice A0 L.length c0, .slice A1 C.length c1, .slice A2 J.length c2, .slice A3 X.length c3], .string t] w fun e w' => e = .returned (.bool true) ∧ Below w.heap.size w w' := by
   clear he
   intro he
   rcases he with rfl | ⟨rfl, h1, h2⟩
   all_goals
    go_enter Tryz.func7, Tryz.ntmps7
    go_wp2_with (first
     | (go_at_call 13; refine (HG.out _ HB0.out).mono ?_; rintro e w1 ⟨rfl, hb⟩; have HB1 := As.mk (bt_ HB0.out hb); have HK1 := As.mk ((hb.block _ (blk_lt HK0.out)).trans HK0.out); clear hb)
     | (go_at_call 14; refine (En.awake_any _).mono ?_; rintro e w2 ⟨rfl, hb⟩; have HB2 := As.mk (bt_ HB1.out hb); clear hb))
    go_ret
    exact ⟨rfl, HB2.out⟩
  exact go (by omega)
 ·have HO := As.mk (fun (W : World) (hb : Below w.heap.size w W) => of_any (HC.out.below hb))
  have HOK := As.mk (some_ok L C J X)
  unfold caseV at HO
  generalize someS L C J X = sp at HO HOK
  unfold vV at HO
  clear hg01
  by_cases hlong : 4000 < t.size
  ·have hl1 : (300 : Int) < (t.size : Int) := by omega
   have hl2 : (4000 : Int) < (t.size : Int) := by omega
   have HL := As.mk hlong
   clear hn hlong
   go_enter Tryz.func7, Tryz.ntmps7
   go_wp2_with (first
    | (go_at_call 13; refine (HG.out _ HB0.out).mono ?_; rintro e w1 ⟨rfl, hb⟩; have HB1 := As.mk (bt_ HB0.out hb); have HK1 := As.mk ((hb.block _ (blk_lt HK0.out)).trans HK0.out); clear hb)
    | (go_at_call 14; refine (En.awake_any _).mono ?_; rintro e w2 ⟨rfl, hb⟩; have HB2 := As.mk (bt_ HB1.out hb); have HK2 := (hb.block _ (blk_lt HK1.out)).trans HK1.out; have d0 := cell_of (i := 0) HK2 rfl; have d1 := cell_of (i := 1) HK2 rfl; have d2 := cell_of (i := 2) HK2 rfl; have d3 := cell_of (i := 3) HK2 rfl; clear hb HK2)
    | (go_at_call 15; refine (HO.out _ HB2.out).mono ?_; rintro e w3 ⟨v, B0, D0, B3, B4, B5, e0, f0, e3, e4, e5, rfl, hv, href, hle, hb⟩; have HB3 := As.mk (bt_ HB2.out hb); have hba := below_alloc (Below.refl w3.heap.size w3) (.cells #[.slice B0 (bL (tabOf sp).1).length e0, .slice D0 (mL (tabOf sp).1).length f0, .slice B4 sp.C.length e4, .slice B5 sp.J.length e5, .slice B3 sp.X.length e3] 38); have HB4 := As.mk (below_alloc HB3.out (.cells #[.slice B0 (bL (tabOf sp).1).length e0, .slice D0 (mL (tabOf sp).1).length f0, .slice B4 sp.C.length e4, .slice B5 sp.J.length e5, .slice B3 sp.X.length e3] 38)); have HV4 := As.mk (hv.below hba).at_; have HF4 := As.mk (href.below hba); have HM4 := As.mk (Go.MapKept.heap_alloc w3 (.cells #[.slice B0 (bL (tabOf sp).1).length e0, .slice D0 (mL (tabOf sp).1).length f0, .slice B4 sp.C.length e4, .slice B5 sp.J.length e5, .slice B3 sp.X.length e3] 38)).1; clear hv href hle hb hba d0 d1 d2 d3 HB3)
    | (go_at_call 23; refine (En.text_long HV4.out t HL.out).mono ?_; rintro e w5 ⟨rfl, rfl⟩)
    | (go_at_call 24; refine (plain_long _ v t HL.out).mono ?_; rintro e w5 ⟨rfl, rfl⟩))
   go_ret
   exact ⟨rfl, HB4.out⟩
  ·have hl1 : ¬ (300 : Int) < (t.size : Int) := by omega
   have hl2 : ¬ (4000 : Int) < (t.size : Int) := by omega
   have HL := As.mk (show t.size ≤ 300 by omega)
   clear hn hlong
   have HP1 := As.mk (parse_right sp t)
   have HP2 := As.mk (bytes_right sp t)
   have HN1 := As.mk (Nat.le_trans (parse_len sp.X t) HL.out)
   have HN2 := As.mk (Nat.le_trans (parse_len [] t) HL.out)
   have HT1 := As.mk (tok_len sp (Mk.parseP sp.X t))
   have HT2 := As.mk (tok_len sp (Mk.parseP [] t))
   have HPA := As.mk (fun (W : World) (A : Option Addr) (c : Nat) (hr : Kd.C k93 W A sp.X.length sp.X) (hc : sp.X.length ≤ c) (hg : Mk.GoodS sp.X) => ligatureref09_Parse.calls _ A c sp.X t _ W hr hc (Mk.parse_some hg t (by have := HL.out; omega)))
   have HBY := As.mk (fun (W : World) => En.bytes_any t W (by have := HL.out; omega))
   have HTX := As.mk (fun (W : World) (v : Nat) (hv : VocAt W v sp) => En.text_any hv HOK.out.sp t (by have := HL.out; omega))
   have HPL := As.mk (fun (W : World) (v : Nat) (hv : VocAt W v sp) => En.plain_any hv HOK.out.sp t (by have := HL.out; omega))
   have HEN := As.mk (fun (W : World) {v : Nat} {A0 B0 A3 A4 A5 : Option Addr} {c0 d0 c3 c4 c5 : Nat} (hf : RefAt W v A0 B0 A3 A4 A5 c0 d0 c3 c4 c5 sp) (its : List Int) (A : Option Addr) (n c : Nat) (ha : Ro W (.slice A n c) its) (hl : its.length ≤ 300) (hr : ∀ x ∈ its, rightP sp x = true) => (by
    obtain ⟨e1, h1, h2⟩ := ha.rd
    subst e1
    exact venc_any hf HOK.out A c its h2 h1 (by omega) hr : Calls Tryz.prog 21 #[vV A0 B0 A3 A4 A5 c0 d0 c3 c4 c5 (tabOf sp).1 sp, .slice A n c] W fun e w' => ∃ v0 : Value, e = .returned v0 ∧ Kd.R (Kd.int .i64) 3 w' W.heap.size (fun _ => True) v0 (tokL sp its) ∧ Below W.heap.size W w'))
   unfold vV at HEN
   have HVI := As.mk (fun (W : World) (v : Nat) (hv : VocAt W v sp) (its : List Int) (A : Option Addr) (n c : Nat) (ha : Ro W (.slice A n c) (tokL sp its)) (hl : its.length ≤ 300) (hr : ∀ x ∈ its, rightP sp x = true) => vitems_tok hv HOK.out ha hr (by omega))
   generalize Mk.parseP sp.X t = P at *
   generalize Mk.parseP [] t = B at *
   generalize hTP : tokL sp P = TP at *
   generalize hTB : tokL sp B = TB at *
   have HTP := As.mk hTP
   have HTB := As.mk hTB
   clear hTP hTB
   go_enter Tryz.func7, Tryz.ntmps7
   go_wp2_with (first
    | (go_at_call 13; refine (HG.out _ HB0.out).mono ?_; rintro e w1 ⟨rfl, hb⟩; have HB1 := As.mk (bt_ HB0.out hb); have HK1 := As.mk ((hb.block _ (blk_lt HK0.out)).trans HK0.out); clear hb)
    | (go_at_call 14; refine (En.awake_any _).mono ?_; rintro e w2 ⟨rfl, hb⟩; have HB2 := As.mk (bt_ HB1.out hb); have HK2 := (hb.block _ (blk_lt HK1.out)).trans HK1.out; have d0 := cell_of (i := 0) HK2 rfl; have d1 := cell_of (i := 1) HK2 rfl; have d2 := cell_of (i := 2) HK2 rfl; have d3 := cell_of (i := 3) HK2 rfl; clear hb HK2)
    | (go_at_call 15; refine (HO.out _ HB2.out).mono ?_; rintro e w3 ⟨v, B0, D0, B3, B4, B5, e0, f0, e3, e4, e5, rfl, hv, href, hle, hb⟩; have HB3 := As.mk (bt_ HB2.out hb); have hba := below_alloc (Below.refl w3.heap.size w3) (.cells #[.slice B0 (bL (tabOf sp).1).length e0, .slice D0 (mL (tabOf sp).1).length f0, .slice B4 sp.C.length e4, .slice B5 sp.J.length e5, .slice B3 sp.X.length e3] 38); have HB4 := As.mk (below_alloc HB3.out (.cells #[.slice B0 (bL (tabOf sp).1).length e0, .slice D0 (mL (tabOf sp).1).length f0, .slice B4 sp.C.length e4, .slice B5 sp.J.length e5, .slice B3 sp.X.length e3] 38)); have HV4 := As.mk (hv.below hba).at_; have HGD := As.mk (VocAt.goodX hv.at_); have HLE := As.mk (Nat.le_trans HB2.out.size hle); have HF4 := As.mk (href.below hba); have HM4 := As.mk (Go.MapKept.heap_alloc w3 (.cells #[.slice B0 (bL (tabOf sp).1).length e0, .slice D0 (mL (tabOf sp).1).length f0, .slice B4 sp.C.length e4, .slice B5 sp.J.length e5, .slice B3 sp.X.length e3] 38)).1; clear hv href hle hb hba d0 d1 d2 d3 HB3)
    | (go_at_call 23; refine (HTX.out _ v HV4.out).mono ?_; rintro e w5 ⟨sa, rfl, ho, hb⟩; have HA := As.mk (Ro.of ho); have HB5 := As.mk (bt_ HB4.out hb); have HV5 := As.mk (HV4.out.below hb); have HF5 := As.mk (HF4.out.below hb); have HM5 := As.mk ((hb.block _ (blk_lt HM4.out)).trans HM4.out); clear ho hb HV4 HF4 HM4)
    | (go_at_call 24; refine (HPL.out _ v HV5.out).mono ?_; rintro e w6 ⟨sb, rfl, ho, hb⟩; have HBB := As.mk (Ro.of ho); have HA6 := As.mk (HA.out.below hb); have HB6 := As.mk (bt_ HB5.out hb); have HV6 := As.mk (HV5.out.below hb); have HF6 := As.mk (HF5.out.below hb); have HM6 := As.mk ((hb.block _ (blk_lt HM5.out)).trans HM5.out); have m4 := cell_of (i := 4) HM6.out rfl; clear ho hb HV5 HF5 HM5 HA)
    | (go_at_call 16; refine (HPA.out _ B3 e3 (Kd.R_reads' HF6.out.X).2.2 (Kd.R_reads' HF6.out.X).2.1 HGD.out).mono ?_; rintro e w7 ⟨sq, rfl, ho, hb⟩; have HQ7 := As.mk (Ro.of ho); have HA7 := As.mk (HA6.out.below hb); have HB77 := As.mk (HBB.out.below hb); have HB7 := As.mk (bt_ HB6.out hb); have HV7 := As.mk (HV6.out.below hb); have HF7 := As.mk (HF6.out.below hb); have HM7 := As.mk ((hb.block _ (blk_lt HM6.out)).trans HM6.out); clear ho hb HV6 HF6 HM6 HA6 HBB m4; obtain ⟨Aa, ca, rfl⟩ := HA7.out.form; obtain ⟨Ab, cb, rfl⟩ := HB77.out.form; obtain ⟨Aq, cq, rfl⟩ := HQ7.out.form))
   refine start_ (n := 23) (S := fun w' => Below w7.heap.size w7 w') (ds := []) #[false, false, false, false, false, false, false, false, false, false, false, false, false, false, false, false, false, false, false, false, false, false, false] (by kernel_rfl) rfl rfl (below_drew1 (Below.refl _ _)) (fun hHeld => ?_)
   have HD8 := As.mk (below_drew1 (Below.refl w7.heap.size w7)); clear hHeld; generalize w7.drew = w8 at HD8 ⊢; have hHeld := HD8.out
   refine pI 0 (some 78) (bs 23 1) ?_
   refine pI 1 (some 79) (bs 23 3) ?_
   refine pI 2 (some 80) (bs 23 7) ?_
   refine pI 3 (some 81) (bs 23 15) ?_
   refine pI 4 (some 82) (bs 23 31) ?_
   refine pI 5 (some 83) (bs 23 63) ?_
   refine pI 6 (some 84) (bs 23 127) ?_
   refine pI 7 (some 85) (bs 23 255) ?_
   refine pI 9 (some 87) (bs 23 767) ?_
   refine tI 8 (some 86) (bs 23 1023) rfl (by intro w' hS'; have s0 := hS'; have hm := (hS'.block _ (blk_lt HM7.out)).trans HM7.out; have m0 := cell_of (i := 0) hm rfl; have m1 := cell_of (i := 1) hm rfl; have m2 := cell_of (i := 2) hm rfl; have m3 := cell_of (i := 3) hm rfl; have m4 := cell_of (i := 4) hm rfl; go_simp; with_reducible rfl) hHeld ?_
   refine one_ (i := 10) (N := some 88) (bs 23 2047) rfl rfl (by kernel_rfl) (by decide) (fun K hK => ?_)
   refine goes_ Tryz.func21 (by kernel_rfl) rfl #[.agg #[.slice B0 (bL (tabOf sp).1).length e0, .slice D0 (mL (tabOf sp).1).length f0, .slice B4 sp.C.length e4, .slice B5 sp.J.length e5, .slice B3 sp.X.length e3], .slice Aq P.length cq] (by rfl) rfl rfl (by simp [Act.eval]) ?_
   refine (HEN.out _ (HF7.out.below HD8.out) P Aq P.length cq (HQ7.out.below HD8.out) HN1.out HP1.out).mono ?_
   rintro e w9 ⟨v0, rfl, ho, hb⟩
   rw [HTP.out] at ho
   have HD9 := As.mk (bt_ HD8.out hb)
   have HE9 := As.mk (Ro.of ho)
   clear ho hb
   obtain ⟨Ae, ce, rfl⟩ := HE9.out.form
   refine ⟨_, rfl, ?_⟩
   refine hK.out _ _ HD9.out (fun hHeld => ?_)
   clear hK K
   refine nI ?_
   refine one_ (i := 11) (N := some 89) (bs 23 4095) rfl rfl (by kernel_rfl) (by decide) (fun K hK => ?_)
   refine goes_ Tryz.func20 (by kernel_rfl) rfl #[.slice Aa TP.length ca, .slice Ae TP.length ce] (by rfl) rfl rfl (by simp [Act.eval]) ?_
   refine (ints_row (HA7.out.below HD9.out) HE9.out (by have := HT1.out; have := HN1.out; omega)).mono ?_
   rintro e w10 ⟨rfl, hb⟩
   have HD10 := As.mk (bt_ HD9.out hb)
   clear hb HE9
   refine ⟨_, rfl, ?_⟩
   refine hK.out _ _ HD10.out (fun hHeld => ?_)
   clear hK K
   refine nI ?_
   refine pI 12 (some 90) (bs 23 8191) ?_
   refine pI 13 (some 91) (bs 23 16383) ?_
   refine pI 14 (some 92) (bs 23 32767) ?_
   refine pI 15 (some 93) (bs 23 65535) ?_
   refine pI 17 (some 95) (bs 23 196607) ?_
   refine tI 16 (some 94) (bs 23 262143) rfl (by intro w' hS'; have s0 := hS'; have hm := (hS'.block _ (blk_lt HM7.out)).trans HM7.out; have m0 := cell_of (i := 0) hm rfl; have m1 := cell_of (i := 1) hm rfl; have m2 := cell_of (i := 2) hm rfl; have m3 := cell_of (i := 3) hm rfl; have m4 := cell_of (i := 4) hm rfl; go_simp; with_reducible rfl) hHeld ?_
   refine one_ (i := 18) (N := some 96) (bs 23 524287) rfl rfl (by kernel_rfl) (by decide) (fun K hK => ?_)
   refine goes_ Tryz.func28 (by kernel_rfl) rfl #[.string t] (by rfl) rfl rfl (by simp [Act.eval]) ?_
   refine (HBY.out _).mono ?_
   rintro e w11 ⟨v0, rfl, ho, hb⟩
   have HD11 := As.mk (bt_ HD10.out hb)
   have HY11 := As.mk (Ro.of ho)
   clear ho hb
   obtain ⟨Ay, cy, rfl⟩ := HY11.out.form
   refine ⟨_, rfl, ?_⟩
   refine hK.out _ _ HD11.out (fun hHeld => ?_)
   clear hK K
   refine nI ?_
   refine one_ (i := 19) (N := some 97) (bs 23 1048575) rfl rfl (by kernel_rfl) (by decide) (fun K hK => ?_)
   refine goes_ Tryz.func21 (by kernel_rfl) rfl #[.agg #[.slice B0 (bL (tabOf sp).1).length e0, .slice D0 (mL (tabOf sp).1).length f0, .slice B4 sp.C.length e4, .slice B5 sp.J.length e5, .slice B3 sp.X.length e3], .slice Ay B.length cy] (by rfl) rfl rfl (by simp [Act.eval]) ?_
   refine (HEN.out _ (HF7.out.below HD11.out) B Ay B.length cy HY11.out HN2.out HP2.out).mono ?_
   rintro e w12 ⟨v0, rfl, ho, hb⟩
   rw [HTB.out] at ho
   have HD12 := As.mk (bt_ HD11.out hb)
   have HE12 := As.mk (Ro.of ho)
   clear ho hb
   obtain ⟨Ag, cg, rfl⟩ := HE12.out.form
   refine ⟨_, rfl, ?_⟩
   refine hK.out _ _ HD12.out (fun hHeld => ?_)
   clear hK K
   refine nI ?_
   refine one_ (i := 20) (N := some 98) (bs 23 2097151) rfl rfl (by kernel_rfl) (by decide) (fun K hK => ?_)
   refine goes_ Tryz.func20 (by kernel_rfl) rfl #[.slice Ab TB.length cb, .slice Ag TB.length cg] (by rfl) rfl rfl (by simp [Act.eval]) ?_
   refine (ints_row (HB77.out.below HD12.out) HE12.out (by have := HT2.out; have := HN2.out; omega)).mono ?_
   rintro e w13 ⟨rfl, hb⟩
   have HD13 := As.mk (bt_ HD12.out hb)
   clear hb HE12
   refine ⟨_, rfl, ?_⟩
   refine hK.out _ _ HD13.out (fun hHeld => ?_)
   clear hK K
   refine nI ?_
   refine pI 21 (some 99) (bs 23 4194303) ?_
   refine pI 22 (some 100) (bs 23 8388607) ?_
   refine done_ (by kernel_rfl) ?_
   have HB13 := As.mk (bt_ HB7.out HD13.out)
   have HV13 := As.mk (HV7.out.below HD13.out)
   have HA13 := As.mk (show Ro w13 (.slice Aa TP.length ca) (tokL sp P) by rw [HTP.out]; exact HA7.out.below HD13.out)
   have HBB13 := As.mk (show Ro w13 (.slice Ab TB.length cb) (tokL sp B) by rw [HTB.out]; exact HB77.out.below HD13.out)
   have HQ13 := As.mk (HQ7.out.below HD13.out)
   clear HV7 HA7 HB77 HQ7 HF7 HM7 HEN HPA HTX HPL HG HO HC hHeld
   go_wp2_with (first
    | (go_at_call 29; refine (HVI.out _ v HV13.out P Aa TP.length ca HA13.out HN1.out HP1.out).mono ?_; rintro e w14 ⟨sx, q, rfl, hx, hv, hu⟩; have HX14 := As.mk hx; have HV14 := As.mk hv; have HB14 := As.mk (HB13.out.trans (used_under hu HLE.out HB13.out.size)); have HBB14 := As.mk (HBB13.out.used HV13.out hu); have HQ14 := As.mk (HQ13.out.used HV13.out hu); clear hx hv hu HV13 HA13 HBB13 HQ13; obtain ⟨Ax, cx, rfl⟩ := HX14.out.form)
    | (go_at_call 29; refine (HVI.out _ v HV14.out B Ab TB.length cb HBB14.out HN2.out HP2.out).mono ?_; rintro e w15 ⟨sz, q2, rfl, hx, hv, hu⟩; have HZ15 := As.mk hx; have HB15 := As.mk (HB14.out.trans (used_under hu HLE.out HB14.out.size)); have HX15 := As.mk (HX14.out.used HV14.out hu); have HQ15 := As.mk (HQ14.out.used HV14.out hu); clear hx hv hu HV14 HX14 HBB14 HQ14; obtain ⟨Az, cz, rfl⟩ := HZ15.out.form)
    | (go_at_call 20; refine (ints_row HX15.out HQ15.out (by have := HN1.out; omega)).mono ?_; rintro e w16 ⟨rfl, hb⟩; have HZ16 := As.mk (HZ15.out.below hb); have HB16 := As.mk (bt_ HB15.out hb); clear hb HX15 HQ15 HZ15)
    | (go_at_call 28; refine (HBY.out _).mono ?_; rintro e w17 ⟨v0, rfl, ho, hb⟩; have HY17 := As.mk (Ro.of ho); have HZ17 := As.mk (HZ16.out.below hb); have HB17 := As.mk (bt_ HB16.out hb); clear ho hb HZ16; obtain ⟨Aw, cw, rfl⟩ := HY17.out.form)
    | (go_at_call 20; refine (ints_row HZ17.out HY17.out (by have := HN2.out; omega)).mono ?_; rintro e w18 ⟨rfl, hb⟩; have HB18 := As.mk (bt_ HB17.out hb); clear hb HZ17))
   go_ret
   exact ⟨rfl, HB18.out⟩
end Go.Proofs.YtkffhgiiejbnaaaGreat.Rt
