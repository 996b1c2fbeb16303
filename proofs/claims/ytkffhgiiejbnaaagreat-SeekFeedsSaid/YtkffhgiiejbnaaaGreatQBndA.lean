import Derived.Deep.RegionHeld3
import Derived.Test.YtkffhgiiejbnaaaGreatQHp
import Derived.Test.YtkffhgiiejbnaaaGreatQ01
set_option maxRecDepth 100000
set_option maxHeartbeats 2000000
set_option linter.unusedVariables false
set_option linter.unusedSimpArgs false
namespace Go.Proofs.YtkffhgiiejbnaaaGreat.Bn
open Go.RowKit YtkffhgiiejbnaaaGreatW.PrintWords YtkffhgiiejbnaaaGreatW.PrintLast YtkffhgiiejbnaaaGreatW.PrintMore Rf Aid Mp Hp
def cls (l:List S165) (b:Nat):Int:=l.foldl (fun a c=>if c.f0≤(b:Int)/\(b:Int)≤c.f1 then c.f2 else a) 0
theorem cls_snoc (l:List S165) (c:S165) (b:Nat):cls (l++[c]) b=if c.f0≤(b:Int)/\(b:Int)≤c.f1 then c.f2 else cls l b:=by simp[cls,List.foldl_append]
def joinB (l:List S108) (x y:Nat):Bool:=l.any (fun j=>decide (j.f0=(x:Int)/\j.f1=(y:Int)))
theorem joinB_snoc (l:List S108) (j:S108) (x y:Nat):joinB (l++[j]) x y=(joinB l x y || decide (j.f0=(x:Int)/\j.f1=(y:Int))):=by simp[joinB]
def okC (c:S165):Prop:=0≤c.f0/\c.f0≤c.f1/\c.f1<256/\0≤c.f2/\c.f2<16
def okJ (j:S108):Prop:=(0≤j.f0/\j.f0<16)/\(0≤j.f1/\j.f1<16)
theorem cls_ok:∀ {l:List S165} {a:Int},(0≤a/\a<16)->(∀ c∈l,okC c)->∀ b:Nat,0≤l.foldl (fun a c=>if c.f0≤(b:Int)/\(b:Int)≤c.f1 then c.f2 else a) a/\l.foldl (fun a c=>if c.f0≤(b:Int)/\(b:Int)≤c.f1 then c.f2 else a) a<16
 | [],a,ha,_,b=>ha
 | c::l,a,ha,h,b=>by
  rw[List.foldl_cons]
  refine cls_ok ?_ (fun x hx=>h x (List.mem_cons_of_mem _ hx)) b
  obtain⟨_,_,_,h4,h5⟩:=h c List.mem_cons_self
  split
  ·exact⟨h4,h5⟩
  ·exact ha
theorem span_ok {c:S165} (h:okC c):bound_span.f c.f0 c.f1 c.f2=some true:=by
 obtain⟨h1,h2,h3,h4,h5⟩:=h
 unfold bound_span.f bound_class.f
 rw[if_pos h1,if_pos h2,if_pos h3,if_pos h4,decide_eq_true h5];rfl
theorem class_ok {n:Int} (h:0≤n/\n<16):bound_class.f n=some true:=by
 unfold bound_class.f
 rw[if_pos h.1,decide_eq_true h.2]
structure BndAt (w:World) (p:Nat) (C:Nat->Int) (J:Nat->Nat->Bool):Prop where
 blk:∃ cs,w.heap[p]?=some (.cells cs 249 (0,0))
 cell:∀ i,i<256->w.cell? ⟨p,i,none⟩=some (.int .i64 (C i))
 join:∀ x y,x<16->y<16->w.cell? ⟨p,256+x * 16+y,none⟩=some (.bool (J x y))
theorem BndAt.below {w w':World} {p:Nat} {C:Nat->Int} {J:Nat->Nat->Bool} (h:BndAt w p C J) {n:Nat} (hb:Below n w w') (hp:p<n):BndAt w' p C J:=by
 obtain⟨cs,hc⟩:=h.blk
 have e:=hb.block p hp
 exact⟨⟨cs,e.trans hc⟩,fun i hi=>by rw[←h.cell i hi];simp only[World.cell?,e],fun x y hx hy=>by rw[←h.join x y hx hy];simp only[World.cell?,e]⟩
theorem BndAt.lt {w:World} {p:Nat} {C:Nat->Int} {J:Nat->Nat->Bool} (h:BndAt w p C J):p<w.heap.size:=Z85
theorem BndAt.next {w w':World} {p:Nat} {C:Nat->Int} {J:Nat->Nat->Bool} (h:BndAt w p C J) (hb:Below w.heap.size w w'):BndAt w' p C J:=h.below hb h.lt
theorem BndAt.conv {w:World} {p:Nat} {C C':Nat->Int} {J J':Nat->Nat->Bool} (h:BndAt w p C J) (hC:∀ i,i<256->C i=C' i) (hJ:∀ x y,x<16->y<16->J x y=J' x y):BndAt w p C' J' :=
 ⟨h.blk,fun i hi=>by rw[←hC i hi];exact h.cell i hi,fun x y hx hy=>by rw[←hJ x y hx hy];exact h.join x y hx hy⟩
theorem BndAt.setC {w:World} {p:Nat} {C:Nat->Int} {J:Nat->Nat->Bool} (h:BndAt w p C J) {b:Nat} (hb:b<256) (n:Int):BndAt (w.setCell ⟨p,b,none⟩ (.int .i64 n)) p (fun i=>if i=b then n else C i) J:=by
 obtain⟨cs,hc⟩:=h.blk
 refine⟨⟨_,blk_set hc b _⟩,fun i hi=>?_,fun x y hx hy=>?_⟩
 ·by_cases e:i=b
  ·subst e;rw[if_pos rfl];exact set_eq (h.cell i hi)
  ·rw[if_neg e,set_ne _ _ _ _ _ e];exact h.cell i hi
 ·rw[set_ne _ _ _ _ _ (Z1)];exact h.join x y hx hy
theorem BndAt.setJ {w:World} {p:Nat} {C:Nat->Int} {J:Nat->Nat->Bool} (h:BndAt w p C J) {a b:Nat} (ha:a<16) (hb:b<16):BndAt (w.setCell ⟨p,256+a * 16+b,none⟩ (.bool true)) p C (fun x y=>J x y || decide (x=a/\y=b)):=by
 obtain⟨cs,hc⟩:=h.blk
 refine⟨⟨_,blk_set hc _ _⟩,fun i hi=>?_,fun x y hx hy=>?_⟩
 ·rw[set_ne _ _ _ _ _ (Z1)];exact h.cell i hi
 ·by_cases e:x=a/\y=b
  ·obtain⟨rfl,rfl⟩:=e
   rw[set_eq (h.join x y hx hy)];simp
  ·rw[set_ne _ _ _ _ _ (Z1),decide_eq_false e,Bool.or_false];exact h.join x y hx hy
def bndZero:Array Value:=(List.replicate 256 (Value.int .i64 0)++List.replicate 256 (Value.bool false)).toArray
theorem bndZero_run (w:World):(zeroValue 249).run Tryz.prog w=.ok (.agg bndZero) w:=Z15
theorem bndZero_size:bndZero.size=512:=Z15
theorem bnd_new (w:World):BndAt (w.alloc (.cells bndZero 249)) w.heap.size (fun _=>0) (fun _ _=>false):=by
 have h0:=(Go.MapKept.heap_alloc w (.cells bndZero 249)).1
 have hcell:∀ i,(w.alloc (.cells bndZero 249)).cell? ⟨w.heap.size,i,none⟩=bndZero[i]?:=by
  intro i
  simp only[World.cell?,h0]
  rfl
 refine⟨⟨_,h0⟩,fun i hi=>?_,fun x y hx hy=>?_⟩
 ·rw[hcell];simp only[bndZero,List.getElem?_toArray]
  rw[List.getElem?_append_left (Z86),List.getElem?_replicate,if_pos hi]
 ·rw[hcell];simp only[bndZero,List.getElem?_toArray]
  rw[List.getElem?_append_right (Z86),List.length_replicate,List.getElem?_replicate,if_pos (Z1)]
theorem new_any (A B:Option Addr) (c d:Nat) (l:List S165) (js:List S108) (w:World) (hr:Kd.C k165 w A l.length l) (hl:l.length≤9223372036854775807) (hr2:Kd.C k108 w B js.length js) (hl2:js.length≤9223372036854775807) (hok:∀ x∈l,okC x) (hok2:∀ x∈js,okJ x) :
  Calls Tryz.prog 122 #[.slice A l.length c,.slice B js.length d] w fun e w'=>e=.returned (.tuple #[.pointer (some ⟨w.heap.size,0,none⟩),.int .i64 0])/\BndAt w' w.heap.size (cls l) (joinB js)/\Below w.heap.size w w':=by
 have HR:=As.mk hr
 have HR2:=As.mk hr2
 have HK1:=As.mk hok
 have HK2:=As.mk hok2
 clear hr hr2 hok hok2
 have hz:=bndZero_run
 have hzs:=bndZero_size
 go_enter Tryz.func122,Tryz.ntmps122
 go_wp2_with fail
 have HO0:=As.mk (bnd_new w)
 have HB0:=As.mk (below_alloc (Below.refl w.heap.size w) (.cells bndZero 249))
 clear hz hzs
 generalize w.alloc (.cells bndZero 249)=W0 at HO0 HB0 ⊢
 go_loopg [16] l.length (fun k v w'=>∃ (i:Nat) (W:World),v=.int .i64 i/\i≤l.length/\As (W=w')/\As (BndAt w' w.heap.size (cls (l.take i)) (fun _ _=>false))/\As (l.length-i≤k)/\As (Below w.heap.size w w'))
 case atStart=>exact⟨0,W0,rfl,Nat.zero_le _,⟨rfl⟩,HO0,⟨Z1⟩,HB0⟩
 case round =>
  clear HO0 HB0
  obtain⟨i,W,rfl,hi,HW,HO,HK,HB⟩:=hrel
  have hW:=HW.out
  subst hW
  clear HW
  by_cases hlt:i<l.length
  ·obtain⟨k1,rfl⟩:∃ k1,gk=k1+1:=⟨gk-1,Z65⟩
   obtain⟨ad,rfl,x0,x1,x2⟩:=at_T165 (Kd.C_below HR.out HB.out) (i:Int) (Z1) (Z1)
   have hltI:(i:Int)<l.length:=Z1
   have ht:l.take (i+1)=l.take i++[rd_T165 l i]:=by
    rw[List.take_succ_eq_append_getElem hlt];unfold rd_T165;rw[Int.toNat_natCast,List.getD_eq_getElem?_getD,List.getElem?_eq_getElem hlt];rfl
   have hk0:okC (rd_T165 l i):=HK1.out _ (by unfold rd_T165;rw[Int.toNat_natCast,List.getD_eq_getElem?_getD,List.getElem?_eq_getElem hlt];exact List.getElem_mem hlt)
   rw[Int.toNat_natCast]at x0 x1 x2
   generalize rd_T165 l i=x at *
   have HT:=As.mk ht
   have HS:=As.mk (span_ok hk0)
   obtain⟨lo,hlo⟩:=Int.eq_ofNat_of_zero_le hk0.1
   obtain⟨hi2,hhi⟩:=Int.eq_ofNat_of_zero_le (Int.le_trans hk0.1 hk0.2.1)
   obtain⟨f0,f1,f2⟩:=x
   simp only at hlo hhi
   subst hlo
   subst hhi
   have hle:lo≤hi2:=by have:=hk0.2.1;simp only at this;omega
   have h255:hi2<256:=by have:=hk0.2.2.1;simp only at this;omega
   clear ht hk0
   simp only at x0 x1 x2 HT HS
   have hne:w.heap.size≠W.heap.size:=fun e=>by have:=HO.out.lt;omega
   have hbl:w.heap.size≤W.heap.size:=HB.out.size
   have hh:=(Go.MapKept.heap_alloc W (.cells #[.int .i64 (lo:Int),.int .i64 (hi2:Int),.int .i64 f2] 165)).1
   have y0:(W.alloc (.cells #[.int .i64 (lo:Int),.int .i64 (hi2:Int),.int .i64 f2] 165)).cell? ⟨W.heap.size,0,none⟩=some (.int .i64 (lo:Int)):=Z69
   have y1:(W.alloc (.cells #[.int .i64 (lo:Int),.int .i64 (hi2:Int),.int .i64 f2] 165)).cell? ⟨W.heap.size,1,none⟩=some (.int .i64 (hi2:Int)):=Z69
   have y2:(W.alloc (.cells #[.int .i64 (lo:Int),.int .i64 (hi2:Int),.int .i64 f2] 165)).cell? ⟨W.heap.size,2,none⟩=some (.int .i64 f2):=Z69
   have HO1:=As.mk (HO.out.next (below_alloc (Below.refl _ _) (.cells #[.int .i64 (lo:Int),.int .i64 (hi2:Int),.int .i64 f2] 165)))
   have HB1:=As.mk (below_alloc HB.out (.cells #[.int .i64 (lo:Int),.int .i64 (hi2:Int),.int .i64 f2] 165))
   clear hh HO
   go_wp2_with (go_at_call 153;refine(bound_span.calls _ _ _ _ _ HS.out).mono ?_;rintro e w1 ⟨rfl,hb⟩;replace y0:=pw_cell_below hb y0;replace y1:=pw_cell_below hb y1;replace y2:=pw_cell_below hb y2;have HO2:=As.mk (HO1.out.next hb);have HB2:=As.mk (bt_ HB1.out hb);clear hb HO1 HB1)
   clear HB x0 x1 x2 y0
   go_loopg [9] (hi2+1-lo) (fun k v w'=>∃ (q:Nat) (W2:World),v=.int .i64 q/\lo≤q/\q≤hi2+1/\As (hi2+1-q≤k)/\As (W2=w')/\As (BndAt w' w.heap.size (fun z=>if lo≤z/\z<q then f2 else cls (l.take i) z) (fun _ _=>false))/\As (w'.cell? ⟨W.heap.size,1,none⟩=some (.int .i64 (hi2:Int))/\w'.cell? ⟨W.heap.size,2,none⟩=some (.int .i64 f2))/\As (Below w.heap.size w w'))
   case atStart=>exact⟨lo,w1,rfl,Nat.le_refl _,Z1,⟨Z1⟩,⟨rfl⟩,⟨HO2.out.conv (fun z _=>Z178) (fun _ _ _ _=>rfl)⟩,⟨y1,y2⟩,HB2⟩
   case round =>
    clear HO2 HB2 y1 y2
    obtain⟨q,W2,rfl,hq1,hq2,HK3,HW,HO3,HY,HB3⟩:=hrel
    have hW:=HW.out
    subst hW
    clear HW
    have y1:=HY.out.1
    have y2:=HY.out.2
    clear HY
    by_cases hqi:q≤hi2
    ·have hqI:(q:Int)≤(hi2:Int):=by omega
     obtain⟨g1,rfl⟩:∃ g1,gk=g1+1:=⟨gk-1,Z87⟩
     go_wp2
     have hfr:=frozen_of HO3.out.blk.choose_spec q
     have hcq:=HO3.out.cell q (Z1)
     have hq256:q<256:=Z1
     have hq256i:(q:Int)<256:=Z1
     refine start_ (n:=8) (S:=fun w'=>w'.cell? ⟨W.heap.size,2,none⟩=some (.int .i64 f2)) (ds:=[7]) #[false,false,false,false,false,false,false,false] (Z15) rfl rfl (y2) (fun hHeld=>?_)
     have HO4:=As.mk (HO3.out.next (below_drew1 (Below.refl _ _)));have HB4:=As.mk (below_drew1 HB3.out);have y1':W2.drew.cell? ⟨W.heap.size,1,none⟩=some (.int .i64 (hi2:Int)):=y1;have hfr':W2.drew.frozen? ⟨w.heap.size,q,none⟩=false:=hfr;have hcq':W2.drew.cell? ⟨w.heap.size,q,none⟩=some (.int .i64 (if lo≤q/\q<q then f2 else cls (List.take i l) q)):=hcq;clear HO3 HB3 y1 y2 hfr hcq;generalize W2.drew=W4 at HO4 HB4 y1' hfr' hcq' hHeld ⊢
     refine pI 0 (some 31) (bs 8 1) ?_
     refine pI 1 (some 32) (bs 8 3) ?_
     refine pI 2 (some 33) (bs 8 7) ?_
     refine pI 4 (some 35) (bs 8 23) ?_
     refine pI 5 (some 36) (bs 8 55) ?_
     refine tI 3 (some 34) (bs 8 63) rfl (Z88) hHeld ?_
     refine pI 6 (some 37) (bs 8 127) ?_
     refine last_ (i:=7) (N:=none) (bs 8 255) rfl rfl (Z15) (Z31) (fun K hK=>?_)
     refine skip_ (w1:=W4.setCell ⟨w.heap.size,q,none⟩ (.int .i64 f2)) (by rfl) rfl ?_ ?_
     ·first|(go_simp;done)|(go_simp;rfl)
     refine hK.out _ _ ?_
     clear hK K
     refine done_ (Z15) ?_
     have HO5:=As.mk (HO4.out.setC hq256 f2)
     have HB5:=As.mk (HB4.out.setCell (p:=⟨w.heap.size,q,none⟩) (Nat.le_refl _) (.int .i64 f2))
     have y1:(W4.setCell ⟨w.heap.size,q,none⟩ (.int .i64 f2)).cell? ⟨W.heap.size,1,none⟩=some (.int .i64 (hi2:Int)):=by rw[World.cell?_setCell_far _ _ _ _ hne];exact y1'
     have y2:(W4.setCell ⟨w.heap.size,q,none⟩ (.int .i64 f2)).cell? ⟨W.heap.size,2,none⟩=some (.int .i64 f2):=by rw[World.cell?_setCell_far _ _ _ _ hne];exact hHeld
     clear HO4 HB4 y1' hHeld hfr' hcq'
     generalize W4.setCell ⟨w.heap.size,q,none⟩ (.int .i64 f2)=W5 at HO5 HB5 y1 y2 ⊢
     go_wp2
     go_roundg g1
     case measure=>omega
     case rel=>exact⟨q+1,W5,Z67,Z1,Z1,⟨Z87⟩,⟨rfl⟩,⟨HO5.out.conv (fun z _=>by
       by_cases e:z=q
       ·subst e;rw[if_pos rfl,if_pos ⟨hq1,Z1⟩]
       ·rw[if_neg e]
        by_cases e2:lo≤z/\z<q
        ·rw[if_pos e2,if_pos (Z1)]
        ·rw[if_neg e2,if_neg (Z1)]) (fun _ _ _ _=>rfl)⟩,⟨y1,y2⟩,HB5⟩
    ·have hqI:¬ (q:Int)≤(hi2:Int):=by omega
     obtain rfl:q=hi2+1:=Z1
     go_wp2
     go_roundg k1
     case measure=>omega
     case rel=>exact⟨i+1,W2,Z67,Z1,⟨rfl⟩,⟨HO3.out.conv (fun z _=>by
       rw[HT.out,cls_snoc]
       by_cases e:lo≤z/\z<hi2+1
       ·rw[if_pos e,if_pos (by simp only;omega)]
       ·rw[if_neg e,if_neg (by simp only;omega)]) (fun _ _ _ _=>rfl)⟩,⟨Z65⟩,HB3⟩
  ·obtain rfl:i=l.length:=by omega
   have HC:=As.mk HO.out
   rw[List.take_length]at HC
   clear HO
   go_wp2
   go_loopg [41] js.length (fun k v w'=>∃ (i:Nat) (W:World),v=.int .i64 i/\i≤js.length/\As (W=w')/\As (BndAt w' w.heap.size (cls l) (joinB (js.take i)))/\As (js.length-i≤k)/\As (Below w.heap.size w w'))
   case atStart=>exact⟨0,W,rfl,Nat.zero_le _,⟨rfl⟩,HC,⟨Z1⟩,HB⟩
   case round =>
    clear HC HB
    obtain⟨i,W,rfl,hi,HW,HO,HK,HB⟩:=hrel
    have hW:=HW.out
    subst hW
    clear HW
    by_cases hlt:i<js.length
    ·obtain⟨k1,rfl⟩:∃ k1,gk=k1+1:=⟨gk-1,Z65⟩
     obtain⟨ad,rfl,x0,x1⟩:=at_T108 (Kd.C_below HR2.out HB.out) (i:Int) (Z1) (Z1)
     have hltI:(i:Int)<js.length:=Z1
     have ht:js.take (i+1)=js.take i++[rd_T108 js i]:=by
      rw[List.take_succ_eq_append_getElem hlt];unfold rd_T108;rw[Int.toNat_natCast,List.getD_eq_getElem?_getD,List.getElem?_eq_getElem hlt];rfl
     have hk0:okJ (rd_T108 js i):=HK2.out _ (by unfold rd_T108;rw[Int.toNat_natCast,List.getD_eq_getElem?_getD,List.getElem?_eq_getElem hlt];exact List.getElem_mem hlt)
     rw[Int.toNat_natCast]at x0 x1
     generalize rd_T108 js i=x at *
     have HT:=As.mk ht
     have HS1:=As.mk (class_ok hk0.1)
     have HS2:=As.mk (class_ok hk0.2)
     obtain⟨f0,f1⟩:=x
     obtain⟨a,ha⟩:=Int.eq_ofNat_of_zero_le hk0.1.1
     obtain⟨b,hb⟩:=Int.eq_ofNat_of_zero_le hk0.2.1
     simp only at ha hb
     subst ha
     subst hb
     have ha16:a<16:=by have:=hk0.1.2;simp only at this;omega
     have hb16:b<16:=by have:=hk0.2.2;simp only at this;omega
     have ha16i:(a:Int)<16:=Z1
     have hb16i:(b:Int)<16:=Z1
     clear ht hk0
     simp only at x0 x1 HT HS1 HS2
     have hne:w.heap.size≠W.heap.size:=fun e=>by have:=HO.out.lt;omega
     have hbl:w.heap.size≤W.heap.size:=HB.out.size
     have hh:=(Go.MapKept.heap_alloc W (.cells #[.int .i64 (a:Int),.int .i64 (b:Int)] 108)).1
     have y0:(W.alloc (.cells #[.int .i64 (a:Int),.int .i64 (b:Int)] 108)).cell? ⟨W.heap.size,0,none⟩=some (.int .i64 (a:Int)):=Z69
     have y1:(W.alloc (.cells #[.int .i64 (a:Int),.int .i64 (b:Int)] 108)).cell? ⟨W.heap.size,1,none⟩=some (.int .i64 (b:Int)):=Z69
     have HO1:=As.mk (HO.out.next (below_alloc (Below.refl _ _) (.cells #[.int .i64 (a:Int),.int .i64 (b:Int)] 108)))
     have HB1:=As.mk (below_alloc HB.out (.cells #[.int .i64 (a:Int),.int .i64 (b:Int)] 108))
     clear hh HO
     go_wp2_with (go_at_call 154;first|(refine(bound_class.calls _ _ _ HS1.out).mono ?_;rintro e w1 ⟨rfl,hd⟩;obtain⟨n1,rfl⟩:=hd.out;clear hd)|(refine(bound_class.calls _ _ _ HS2.out).mono ?_;rintro e w1 ⟨rfl,hd⟩;obtain⟨n2,rfl⟩:=hd.out;clear hd))
     have hbN:=pw_below_drewN (Below.refl (W.alloc (.cells #[.int .i64 (a:Int),.int .i64 (b:Int)] 108)).heap.size (W.alloc (.cells #[.int .i64 (a:Int),.int .i64 (b:Int)] 108))) (n1+n2)
     replace y0:=pw_cell_below hbN y0
     replace y1:=pw_cell_below hbN y1
     have HO2:=As.mk (HO1.out.next hbN)
     have HB2:=As.mk (bt_ HB1.out hbN)
     clear hbN HO1 HB1 x0 x1 HB
     generalize (W.alloc (.cells #[.int .i64 (a:Int),.int .i64 (b:Int)] 108)).drewN (n1+n2)=W2 at y0 y1 HO2 HB2 ⊢
     have hfr:=frozen_of HO2.out.blk.choose_spec (256+a * 16+b)
     have hcq:=HO2.out.join a b ha16 hb16
     refine start_ (n:=10) (S:=fun w'=>w'.cell? ⟨W.heap.size,0,none⟩=some (.int .i64 (a:Int))/\w'.cell? ⟨W.heap.size,1,none⟩=some (.int .i64 (b:Int))) (ds:=[9]) #[false,false,false,false,false,false,false,false,false,false] (Z15) rfl rfl (⟨y0,y1⟩) (fun hHeld=>?_)
     have HO4:=As.mk (HO2.out.next (below_drew1 (Below.refl _ _)));have HB4:=As.mk (below_drew1 HB2.out);have hfr':W2.drew.frozen? ⟨w.heap.size,256+a * 16+b,none⟩=false:=hfr;have hcq':W2.drew.cell? ⟨w.heap.size,256+a * 16+b,none⟩=some (.bool (joinB (List.take i js) a b)):=hcq;clear HO2 HB2 y0 y1 hfr hcq;generalize W2.drew=W4 at HO4 HB4 hfr' hcq' hHeld ⊢
     refine pI 0 (some 55) (bs 10 1) ?_
     refine pI 1 (some 56) (bs 10 3) ?_
     refine pI 3 (some 58) (bs 10 11) ?_
     refine pI 5 (some 60) (bs 10 43) ?_
     refine pI 6 (some 61) (bs 10 107) ?_
     refine tI 2 (some 57) (bs 10 111) rfl (Z89) hHeld ?_
     refine pI 7 (some 62) (bs 10 239) ?_
     refine tI 4 (some 59) (bs 10 255) rfl (Z89) hHeld ?_
     refine pI 8 (some 63) (bs 10 511) ?_
     refine last_ (i:=9) (N:=none) (bs 10 1023) rfl rfl (Z15) (Z31) (fun K hK=>?_)
     refine skip_ (w1:=W4.setCell ⟨w.heap.size,256+a * 16+b,none⟩ (.bool true)) (by rfl) rfl ?_ ?_
     ·first|(go_simp;done)|(go_simp;rfl)
     refine hK.out _ _ ?_
     clear hK K
     refine done_ (Z15) ?_
     have HO5:=As.mk (HO4.out.setJ ha16 hb16)
     have HB5:=As.mk (HB4.out.setCell (p:=⟨w.heap.size,256+a * 16+b,none⟩) (Nat.le_refl _) (.bool true))
     clear HO4 HB4 hHeld hfr' hcq'
     generalize W4.setCell ⟨w.heap.size,256+a * 16+b,none⟩ (.bool true)=W5 at HO5 HB5 ⊢
     go_wp2
     go_roundg k1
     case measure=>omega
     case rel=>exact⟨i+1,W5,Z67,Z1,⟨rfl⟩,⟨HO5.out.conv (fun _ _=>rfl) (fun x y _ _=>by
       rw[HT.out,joinB_snoc]
       congr 1
       rw[decide_eq_decide]
       simp only
       omega)⟩,⟨Z65⟩,HB5⟩
    ·obtain rfl:i=js.length:=by omega
     have HC:=As.mk HO.out
     rw[List.take_length]at HC
     clear HO
     go_wp2
     go_ret2
     exact⟨rfl,HC.out,HB.out⟩
end Go.Proofs.YtkffhgiiejbnaaaGreat.Bn
