import Derived.Test.YtkffhgiiejbnaaaGreatQEncG
import Derived.Test.YtkffhgiiejbnaaaGreatQ02
set_option maxRecDepth 100000
set_option maxHeartbeats 400000
set_option linter.unusedVariables false
set_option linter.unusedSimpArgs false
set_option linter.unnecessarySimpa false
namespace Go.Proofs.YtkffhgiiejbnaaaGreat.En
open Go.Shelf Go.RowKit YtkffhgiiejbnaaaGreatW.PrintWords YtkffhgiiejbnaaaGreatW.PrintLast YtkffhgiiejbnaaaGreatW.PrintMore Rf Aid Mp Hp Bn Tk Vc Rg Go.Proofs.YtkffhgiiejbnaaaGreat.Fn
theorem atP_none (s:ByteArray):Mk.atP [] s=none:=by
 unfold Mk.atP Mk.firstOf
 split <;> simp
theorem bytes_run (s:ByteArray) (hs:s.size≤1000):∀ (d k i:Nat) (xs:List Int),i≤s.size->s.size-i=d->d<k->xs.length=i->mark_Bytes.l0 k s xs (s.size:Int) i=some (xs++Mk.parseF [] s d i)
 | 0,k,i,xs,h0,h1,h2,h3=>by
  obtain⟨k,rfl⟩:∃ m,k=m+1:=⟨k-1,Z1⟩
  simp only[mark_Bytes.l0]
  rw[if_neg (Z1)]
  simp[Mk.parseF]
 | d+1,k,i,xs,h0,h1,h2,h3=>by
  obtain⟨k,rfl⟩:∃ m,k=m+1:=⟨k-1,Z1⟩
  have hlt:i<s.size:=Z1
  have hw:wrap64 ((i:Int)+1)=((i+1:Nat):Int):=(w64 (Z1) (Z1)).trans (Z1)
  have hb:=bt_range s i
  have hwb:wrap64 (bt s (i:Int))=bt s i:=w64 (Z1) (Z1)
  simp only[mark_Bytes.l0]
  rw[if_pos (Z1),if_pos (Z1),if_pos (Z1),if_pos (Z1),hw,hwb,bytes_run s hs d k (i+1) _ (Z1) (Z1) (Z1) (Z6),Mk.parseF_byte hlt (atP_none _),List.append_assoc]
  rfl
theorem bytes_any (s:ByteArray) (w:World) (hs:s.size≤1000) :
  Calls Tryz.prog 28 #[.string s] w fun e w'=>∃ v,e=.returned v/\Kd.R (Kd.int .i64) 3 w' w.heap.size (fun _=>True) v (Mk.parseP [] s)/\Below w.heap.size w w' :=
 mark_Bytes.calls (s.size+1) s _ w (by
  unfold mark_Bytes.f Mk.parseP
  have:=bytes_run s hs s.size (s.size+1) 0 [] (Z1) (Z1) (Z1) rfl
  simpa using this)
theorem of_any {w:World} {v:Nat} {sp:Sp} (hv:VocAt w v sp) (hsp:SpOk sp) (s:ByteArray) (hs:s.size≤1000) (g:Nat) (first:Array Value) (eg:∀ args w,(callFunc g args).run Tryz.prog w=.ok (.enter g args) w) {items:List Int} (hri:∀ x∈items,rightP sp x=true) (hl:items.length≤1000)
  (hp:Calls Tryz.prog g (first++#[.string s]) w fun e w'=>∃ pv,e=.returned pv/\Kd.R (Kd.int .i64) 3 w' w.heap.size (fun _=>True) pv items/\Below w.heap.size w w') :
  Calls Tryz.prog 66 #[.pointer (some ⟨v,0,none⟩),.string s,.func (.func g) first #[]] w fun e w'=>∃ sv,e=.returned (.tuple #[sv,.int .i64 0])/\Kd.R (Kd.int .i64) 3 w' w.heap.size (fun _=>True) sv (tokL sp items)/\Below w.heap.size w w':=by
 have HP:=As.mk hp
 have HV:=As.mk hv
 have HS:=As.mk hsp
 have HRI:=As.mk hri
 have hg:¬ (4000:Int)<(s.size:Int):=Z1
 clear hp hv hsp hri
 go_enter Tryz.func66,Tryz.ntmps66
 go_wp2_with (first
  | (go_at_call 61;refine(tokens_any (HV.out.below HB1.out) HS.out (Kd.R_reads' HR1.out).2.2 HC1.out HRI.out (Z1)).mono ?_;rintro e w2 ⟨sv,rfl,hr2,hb2⟩;rw[tokP_eq]at hr2;have HR2:=As.mk (Kd.R_lower hr2 HB1.out.size);have HB2:=As.mk (HB1.out.trans (hb2.mono HB1.out.size));clear hr2 hb2)
  | (go_at_fn g;refine HP.out.mono ?_;rintro e w1 ⟨pv,rfl,hr1,hb1⟩;obtain⟨A1,c1,rfl,hc1,_⟩:=Kd.R_reads hr1;have HR1:=As.mk hr1;have HC1:=As.mk hc1;have HB1:=As.mk hb1;clear hr1 hb1 hc1))
 go_ret2
 exact⟨_,rfl,HR2.out,HB2.out⟩
end Go.Proofs.YtkffhgiiejbnaaaGreat.En
namespace Go.Proofs.YtkffhgiiejbnaaaGreat.En
open Go.Shelf Go.RowKit YtkffhgiiejbnaaaGreatW.PrintWords YtkffhgiiejbnaaaGreatW.PrintLast YtkffhgiiejbnaaaGreatW.PrintMore Rf Aid Mp Hp Bn Tk Vc Rg Go.Proofs.YtkffhgiiejbnaaaGreat.Fn
theorem parseF_item {S:List Mk.Sp} {s:ByteArray}:∀ (f i:Nat),∀ x∈Mk.parseF S s f i,(0≤x/\x<256)\/(x<0/\-(S.length:Int)≤x)
 | 0,_,x,h=>by simp[Mk.parseF]at h
 | f+1,i,x,h=>by
  by_cases hi:i<s.size
  ·cases ha:Mk.atP S (s.extract i s.size) with
   | none =>
    rw[Mk.parseF_byte hi ha]at h
    rcases List.mem_cons.1 h with rfl|h
    ·have:=bt_range s i;left;omega
    ·exact parseF_item f _ x h
   | some j =>
    rw[Mk.parseF_mark hi ha]at h
    rcases List.mem_cons.1 h with rfl|h
    ·have:=(Mk.atP_spec ha).1;right;omega
    ·exact parseF_item f _ x h
  ·rw[Mk.parseF_nil hi]at h;cases h
theorem parse_right (sp:Sp) (s:ByteArray):∀ x∈Mk.parseP sp.X s,rightP sp x=true:=fun x hx=>by
 unfold rightP
 rcases parseF_item _ _ x hx with h|h
 ·simp[h]
 ·simp[h]
theorem bytes_right (sp:Sp) (s:ByteArray):∀ x∈Mk.parseP [] s,rightP sp x=true:=fun x hx=>by
 unfold rightP
 rcases parseF_item _ _ x hx with h|h
 ·simp[h]
 ·have h2:=h.2;simp only[List.length_nil]at h2;omega
theorem parse_len (S:List Mk.Sp) (s:ByteArray):(Mk.parseP S s).length≤s.size:=Mk.parseF_length S s s.size 0
theorem text_any {w:World} {v:Nat} {sp:Sp} (hv:VocAt w v sp) (hsp:SpOk sp) (s:ByteArray) (hs:s.size≤1000) :
  Calls Tryz.prog 23 #[.pointer (some ⟨v,0,none⟩),.string s] w fun e w'=>∃ sv,e=.returned (.tuple #[sv,.int .i64 0])/\Kd.R (Kd.int .i64) 3 w' w.heap.size (fun _=>True) sv (tokL sp (Mk.parseP sp.X s))/\Below w.heap.size w w':=by
 have HV:=As.mk hv
 have HO:=As.mk (fun(pm:Nat) (hm:Mk.SetAt w pm sp.X)=>of_any hv hsp s hs 68 #[.pointer (some ⟨pm,0,none⟩)] (enters_of Tryz.func68 (Z15) rfl) (parse_right sp s) (Nat.le_trans (parse_len _ _) hs) (Mk.parse_any hm s (Z1)))
 clear hv hsp
 go_enter Tryz.func23,Tryz.ntmps23
 go_wp2_with (first
  | (go_at_call 67;refine(marks_any HV.out).mono ?_;rintro e w1 ⟨pm,rfl,hm,rfl⟩)
  | (go_at_call 66;refine(HO.out pm hm).mono ?_;rintro e w1 ⟨sv,rfl,hr1,hb1⟩;have HR1:=As.mk hr1;have HB1:=As.mk hb1;clear hr1 hb1))
 go_ret2
 exact⟨_,rfl,HR1.out,HB1.out⟩
theorem plain_any {w:World} {v:Nat} {sp:Sp} (hv:VocAt w v sp) (hsp:SpOk sp) (s:ByteArray) (hs:s.size≤1000) :
  Calls Tryz.prog 24 #[.pointer (some ⟨v,0,none⟩),.string s] w fun e w'=>∃ sv,e=.returned (.tuple #[sv,.int .i64 0])/\Kd.R (Kd.int .i64) 3 w' w.heap.size (fun _=>True) sv (tokL sp (Mk.parseP [] s))/\Below w.heap.size w w':=by
 have HO:=As.mk (of_any hv hsp s hs 28 #[] (enters_of Tryz.func28 (Z15) rfl) (bytes_right sp s) (Nat.le_trans (parse_len _ _) hs) (bytes_any s w hs))
 clear hv hsp
 go_enter Tryz.func24,Tryz.ntmps24
 go_wp2_with (go_at_call 66;refine HO.out.mono ?_;rintro e w1 ⟨sv,rfl,hr1,hb1⟩;have HR1:=As.mk hr1;have HB1:=As.mk hb1;clear hr1 hb1)
 go_ret2
 exact⟨_,rfl,HR1.out,HB1.out⟩
end Go.Proofs.YtkffhgiiejbnaaaGreat.En
