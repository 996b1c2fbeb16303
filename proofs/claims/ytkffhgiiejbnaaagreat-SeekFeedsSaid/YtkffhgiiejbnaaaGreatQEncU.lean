import Derived.Test.YtkffhgiiejbnaaaGreatQEncI
import Derived.Test.YtkffhgiiejbnaaaGreatQRefB
import Derived.Test.YtkffhgiiejbnaaaGreatQRefS
import Derived.Test.YtkffhgiiejbnaaaGreatQRefK
import Derived.Test.YtkffhgiiejbnaaaGreatQRefI
import Derived.Test.YtkffhgiiejbnaaaGreatQOf
import Derived.Test.YtkffhgiiejbnaaaGreatQRF21
import Derived.Test.YtkffhgiiejbnaaaGreatQRefL
import Derived.Test.YtkffhgiiejbnaaaGreatQMarkRef
import Derived.Test.YtkffhgiiejbnaaaGreatQ01
set_option maxRecDepth 100000
set_option maxHeartbeats 1000000
set_option linter.unusedVariables false
set_option linter.unusedSimpArgs false
namespace Go.Proofs.YtkffhgiiejbnaaaGreat.En
open Go.Shelf Go.RowKit YtkffhgiiejbnaaaGreatW.PrintWords YtkffhgiiejbnaaaGreatW.PrintLast YtkffhgiiejbnaaaGreatW.PrintMore Rf Aid Mp Hp Bn Tk Vc Rg Go.Proofs.YtkffhgiiejbnaaaGreat.Fn
def sE:Sp:=⟨[⟨97,98⟩],[⟨300,⟨#[60]⟩⟩],[],[]⟩
theorem sE_ok:VOk sE:=⟨⟨Z31,Z31,Z31,Z31,(fun x h=>by rw[List.mem_singleton.1 h];decide),(fun x h=>by rw[List.mem_singleton.1 h];decide),(fun _ h=>nomatch h),(fun _ h=>nomatch h)⟩,Z15,Z15,(fun x h=>by rw[List.mem_singleton.1 h];exact of_decide_eq_true (Z15))⟩
theorem tE:tokL sE (Mk.parseP sE.X ⟨#[97,98,60,97]⟩)=[256,300,97]:=Z15
theorem pE:tokL sE (Mk.parseP [] ⟨#[97,98,60,97]⟩)=[256,60,97]:=Z15
theorem dr_below {w w':World} (h:Drawn w w'):Below w.heap.size w w':=by
 obtain⟨n,rfl⟩:=h
 exact pw_below_drewN (Below.refl _ _) n
theorem ints_same {xs:List Int} {n:Nat} (hn:xs.length=n) (A B:Option Addr) (c d:Nat) (w:World) (hr0:Kd.C (Kd.int .i64) w A xs.length xs) (hc0:xs.length≤c) (hr1:Kd.C (Kd.int .i64) w B xs.length xs) (hc1:xs.length≤d) (hl:xs.length≤9223372036854775807) :
  Calls Tryz.prog 20 #[.slice A n c,.slice B n d] w fun e w'=>e=.returned (.bool true)/\Below w.heap.size w w':=by
 subst hn
 refine(ints_any xs xs A B c d w hr0 hc0 hr1 hc1 hl).mono ?_
 rintro e w' ⟨rfl,hb⟩
 exact⟨by rw[decide_eq_true rfl],dr_below hb⟩
theorem awk_ints (x y z:Int) {w:World} {A:Option Addr} {c:Nat} (h:Kd.C (Kd.int .i64) w A [x,y,z].length [x,y,z]) (hc:[x,y,z].length≤c) :
  Calls Tryz.prog 20 #[.slice A 3 c,.slice (some ⟨w.heap.size,0,none⟩) 3 3] (w.alloc (.cells #[.int .i64 x,.int .i64 y,.int .i64 z] 3)) fun e w'=>e=.returned (.bool true)/\Below w.heap.size w w':=by
 have h2:=C_ints w 3 [x,y,z] (show 3≤9223372036854775807 from Z1)
 have h1:=Kd.C_alloc h (.cells ([x,y,z].map (Value.int .i64)).toArray 3)
 have h3:=ints_same (n:=3) rfl A (some ⟨w.heap.size,0,none⟩) c 3 _ h1 hc h2 (Nat.le_refl _) (show 3≤9223372036854775807 from Z1)
 refine h3.mono ?_
 rintro e w' ⟨rfl,hb⟩
 exact⟨rfl,bt_ (below_alloc (Below.refl _ _) _) hb⟩
theorem awk_worlds (w:World):((w.alloc (.cells #[.int .i64 97,.int .i64 98] 91 (0,0))).alloc (.cells #[.int .i64 300,.string ⟨#[60]⟩] 93 (0,0))).heap[w.heap.size]?=some (.cells #[.int .i64 97,.int .i64 98] 91 (0,0))/\((w.alloc (.cells #[.int .i64 97,.int .i64 98] 91 (0,0))).alloc (.cells #[.int .i64 300,.string ⟨#[60]⟩] 93 (0,0))).heap[w.heap.size+1]?=some (.cells #[.int .i64 300,.string ⟨#[60]⟩] 93 (0,0)):=by
 generalize Obj.cells #[.int .i64 97,.int .i64 98] 91 (0,0)=a
 generalize Obj.cells #[.int .i64 300,.string ⟨#[60]⟩] 93 (0,0)=b
 have h:((w.alloc a).alloc b).heap=(w.heap.push a).push b:=rfl
 rw[h]
 refine⟨?_,?_⟩
 ·rw[Array.getElem?_push,if_neg (by simp),Array.getElem?_push,if_pos rfl]
 ·rw[Array.getElem?_push,if_pos (by simp)]
theorem awake_any (w:World):Calls Tryz.prog 14 #[] w fun e w'=>e=.returned (.bool true)/\Below w.heap.size w w':=by
 have HW:=awk_worlds w
 have HB0:=As.mk (below_alloc (below_alloc (Below.refl w.heap.size w) (.cells #[.int .i64 97,.int .i64 98] 91)) (.cells #[.int .i64 300,.string ⟨#[60]⟩] 93))
 have hsz:w.heap.size≤((w.alloc (.cells #[.int .i64 97,.int .i64 98] 91 (0,0))).alloc (.cells #[.int .i64 300,.string ⟨#[60]⟩] 93 (0,0))).heap.size:=HB0.out.size
 have hat:SpAt ((w.alloc (.cells #[.int .i64 97,.int .i64 98] 91 (0,0))).alloc (.cells #[.int .i64 300,.string ⟨#[60]⟩] 93 (0,0))) (some ⟨w.heap.size,0,none⟩) (some ⟨w.heap.size+1,0,none⟩) none none sE :=
  ⟨Rt.C_blk_mrg HW.1,Rt.C_blk_sp (y:=⟨300,⟨#[60]⟩⟩) HW.2,⟨rfl,Z31,fun h=>absurd h (Z31)⟩,⟨rfl,Z31,fun h=>absurd h (Z31)⟩⟩
 have hn:=new_ok 1 1 0 0 hat sE_ok
 rw[show spV (some ⟨w.heap.size,0,none⟩) (some ⟨w.heap.size+1,0,none⟩) none none 1 1 0 0 sE=.agg #[.bool false,.slice (some ⟨w.heap.size,0,none⟩) 1 1,.slice none 0 0,.slice (some ⟨w.heap.size+1,0,none⟩) 1 1,.slice none 0 0,.slice none 0 0] from rfl]at hn
 have HN:=As.mk hn
 clear hn hat HW
 have hz:∀ w,(zeroValue 95).run Tryz.prog w=.ok (.agg #[.bool false,.slice none 0 0,.slice none 0 0,.slice none 0 0,.slice none 0 0,.slice none 0 0]) w:=fun w=>Z15
 go_enter Tryz.func14,Tryz.ntmps14
 go_wp2_with (first
  | (go_at_call 50;refine HN.out.mono ?_;rintro e w1 ⟨v,rfl,hv,hle,hb⟩;have HV1:=As.mk hv;have HB1:=As.mk (HB0.out.trans (hb.mono hsz));clear hv hle hb HN)
  | (go_at_call 23;have ht:=text_any HV1.out sE_ok.sp ⟨#[97,98,60,97]⟩ (Z31);rw[tE]at ht;refine ht.mono ?_;clear ht;rintro e w2 ⟨sa,rfl,ha,hb⟩;have HA2:=As.mk ha;have HV2:=As.mk (HV1.out.below hb);have HB2:=As.mk (bt_ HB1.out hb);clear ha hb HV1)
  | (go_at_call 24;have ht:=plain_any HV2.out sE_ok.sp ⟨#[97,98,60,97]⟩ (Z31);rw[pE]at ht;refine ht.mono ?_;clear ht;rintro e w3 ⟨sb,rfl,ha,hb⟩;have HP3:=As.mk ha;have HA3:=As.mk (Kd.R_below HA2.out hb);have HB3:=As.mk (bt_ HB2.out hb);clear ha hb HV2;obtain⟨Aa,ca,rfl,hca,hCa⟩:=Kd.R_reads HA3.out;obtain⟨Ab,cb,rfl,hcb,hCb⟩:=Kd.R_reads HP3.out;have HCa:=As.mk hCa;have HCb:=As.mk hCb;clear hCa hCb HA2 HA3 HP3)
  | (go_at_call 20;refine(awk_ints 256 300 97 HCa.out hca).mono ?_;rintro e w4 ⟨rfl,hb⟩;have HB4:=As.mk (bt_ HB3.out hb);have HC4:=As.mk (Kd.C_below HCb.out hb);clear hb HCa)
  | (go_at_call 20;refine(awk_ints 256 60 97 HC4.out hcb).mono ?_;rintro e w5 ⟨rfl,hb⟩;have HB5:=As.mk (bt_ HB4.out hb);clear hb))
 go_ret
 exact⟨rfl,HB5.out⟩
end Go.Proofs.YtkffhgiiejbnaaaGreat.En
namespace Go.Proofs.YtkffhgiiejbnaaaGreat.Rt
open Go.RowKit YtkffhgiiejbnaaaGreatW.PrintWords YtkffhgiiejbnaaaGreatW.PrintLast YtkffhgiiejbnaaaGreatW.PrintMore Rf Aid Mp Hp Tk Vc Bn En
def Ro (w:World) (v:Value) (xs:List Int):Prop:=Kd.R (Kd.int .i64) 3 w 0 (fun _=>True) v xs
theorem Ro.of {w:World} {b:Nat} {v:Value} {xs:List Int} (h:Kd.R (Kd.int .i64) 3 w b (fun _=>True) v xs):Ro w v xs:=Kd.R_lower h (Nat.zero_le _)
theorem Ro.below {w w':World} {v:Value} {xs:List Int} (h:Ro w v xs) (hb:Below w.heap.size w w'):Ro w' v xs:=Kd.R_below h hb
theorem Ro.form {w:World} {v:Value} {xs:List Int} (h:Ro w v xs):∃ A c,v=.slice A xs.length c:=Kd.R_slice h
theorem Ro.rd {w:World} {A:Option Addr} {n c:Nat} {xs:List Int} (h:Ro w (.slice A n c) xs):n=xs.length/\n≤c/\Kd.C (Kd.int .i64) w A xs.length xs:=Kd.R_reads' h
theorem Ro.set {w:World} {v:Nat} {s:Sp} {u:Value} {xs:List Int} (h:Ro w u xs) (hv:VocAt w v s) (m:Value):Ro (w.setCell ⟨v,13,none⟩ m) u xs:=by
 obtain⟨cs,hb⟩:=hv.blk
 exact Kd.R_set h hb (Z31) 13 m
theorem Ro.used {w w':World} {v:Nat} {s:Sp} {u:Value} {xs:List Int} (h:Ro w u xs) (hv:VocAt w v s) (hu:Used w v w'):Ro w' u xs:=by
 obtain⟨m,hm⟩:=hu
 exact(h.set hv (.int .i64 m)).below (by rw[set_size w ⟨v,13,none⟩ (.int .i64 m)];exact hm)
end Go.Proofs.YtkffhgiiejbnaaaGreat.Rt
