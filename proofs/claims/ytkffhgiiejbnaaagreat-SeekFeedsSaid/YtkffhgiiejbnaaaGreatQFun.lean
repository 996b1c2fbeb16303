import Derived.Shelf.Abstract
import Derived.Test.YtkffhgiiejbnaaaGreatQHp
set_option maxHeartbeats 400000
set_option linter.unusedVariables false
set_option linter.unusedSimpArgs false
namespace Go.Proofs.YtkffhgiiejbnaaaGreat.Fn
open Go.Shelf Go.RowKit YtkffhgiiejbnaaaGreatW.PrintWords YtkffhgiiejbnaaaGreatW.PrintLast YtkffhgiiejbnaaaGreatW.PrintMore Rf Aid Mp Hp
def ix (o:Option Nat):Int:=match o with|some i=>(i:Int)|none=>-1
theorem find_step {α:Type} (p:α->Bool) (l:List α) (i:Nat) (h:i<l.length):((l.drop i).findIdx? p).map (i + ·)=if p l[i]=true then some i else ((l.drop (i+1)).findIdx? p).map (i+1 + ·):=by
 rw[List.drop_eq_getElem_cons h,List.findIdx?_cons]
 by_cases hp:p l[i]=true
 ·rw[if_pos hp,if_pos hp];simp
 ·rw[if_neg hp,if_neg hp,Option.map_map];congr 1;funext j;simp only[Function.comp];omega
theorem find_end {α:Type} (p:α->Bool) (l:List α) (i:Nat) (h:l.length≤i):((l.drop i).findIdx? p).map (i + ·)=none:=by
 rw[List.drop_eq_nil_of_le h];rfl
def encM (x:S91):Value:=.agg #[.int .i64 x.f0,.int .i64 x.f1]
theorem idxM (A:Option Addr) (c:Nat) (l:List S91) (g:Nat) (lb:Array Value) (p:S91->Bool) (eg:∀ args w,(callFunc g args).run Tryz.prog w=.ok (.enter g args) w) (w:World) (hr:Kd.C k91 w A l.length l) (hl:l.length≤9223372036854775807)
  (hp:∀ W,Below w.heap.size w W->∀ x∈l,Calls Tryz.prog g (#[encM x]++lb) W fun e W'=>e=.returned (.bool (p x))/\Below W.heap.size W W') :
  Calls Tryz.prog 165 #[.slice A l.length c,.func (.func g) #[] lb] w fun e w'=>e=.returned (.int .i64 (ix (l.findIdx? p)))/\Below w.heap.size w w':=by
 have HR:=As.mk hr
 have HP:=As.mk hp
 clear hr hp
 obtain⟨R,hR⟩:∃ R,l.findIdx? p=R:=⟨_,rfl⟩
 have HF0:=As.mk (show ((l.drop 0).findIdx? p).map (0 + ·)=R from Z81)
 rw[hR]
 clear hR
 go_enter Tryz.func165,Tryz.ntmps165
 go_wp2
 go_loopg [5,8] l.length (fun k _ v w'=>∃ (i:Nat),v=.int .i64 i/\i≤l.length/\As (((l.drop i).findIdx? p).map (i + ·)=R)/\As (l.length-i≤k)/\As (Below w.heap.size w w'))
 case atStart=>exact⟨0,rfl,Nat.zero_le _,HF0,⟨Z1⟩,⟨Below.refl _ _⟩⟩
 case round =>
  clear HF0
  obtain⟨i,rfl,hi,HF,HK,HB⟩:=hrel
  by_cases hlt:i<l.length
  ·obtain⟨k1,rfl⟩:∃ k1,gk=k1+1:=⟨gk-1,Z65⟩
   obtain⟨ad,rfl,x0,x1⟩:=at_T91 (Kd.C_below HR.out HB.out) (i:Int) (Z1) (Z1)
   have hltI:(i:Int)<l.length:=Z1
   have hrd:rd_T91 l i=l[i]:=by unfold rd_T91;rw[Int.toNat_natCast,List.getD_eq_getElem?_getD,List.getElem?_eq_getElem hlt];rfl
   have HC:=As.mk (HP.out _ HB.out l[i] (List.getElem_mem hlt))
   have HS:=As.mk ((find_step p l i hlt).symm.trans HF.out)
   rw[Int.toNat_natCast,hrd]at x0 x1
   clear hrd HF
   unfold encM at HC
   generalize l[i]=x at *
   cases hq:p x with
   | true =>
    rw[hq]at HC HS
    have HE:=As.mk ((if_pos rfl).symm.trans HS.out)
    clear HS
    go_wp2_with (go_at_fn g;refine HC.out.mono ?_;rintro e w1 ⟨rfl,hb⟩)
    go_ret
    exact⟨Z82,bt_ HB.out hb⟩
   | false =>
    rw[hq]at HC HS
    have HE:=As.mk ((if_neg (Z31)).symm.trans HS.out)
    clear HS
    go_wp2_with (go_at_fn g;refine HC.out.mono ?_;rintro e w1 ⟨rfl,hb⟩;have HB1:=As.mk (bt_ HB.out hb);clear hb HB)
    go_roundg k1
    case measure=>omega
    case rel=>exact⟨i+1,Z67,Z1,HE,⟨Z65⟩,HB1⟩
  ·obtain rfl:i=l.length:=by omega
   have HE:=As.mk ((find_end p l l.length (Nat.le_refl _)).symm.trans HF.out)
   go_wp2
   go_ret
   exact⟨Z82,HB.out⟩
theorem conM (A:Option Addr) (c:Nat) (l:List S91) (g:Nat) (lb:Array Value) (p:S91->Bool) (eg:∀ args w,(callFunc g args).run Tryz.prog w=.ok (.enter g args) w) (w:World) (hr:Kd.C k91 w A l.length l) (hl:l.length≤9223372036854775807)
  (hp:∀ W,Below w.heap.size w W->∀ x∈l,Calls Tryz.prog g (#[encM x]++lb) W fun e W'=>e=.returned (.bool (p x))/\Below W.heap.size W W') :
  Calls Tryz.prog 139 #[.slice A l.length c,.func (.func g) #[] lb] w fun e w'=>e=.returned (.bool (l.findIdx? p).isSome)/\Below w.heap.size w w':=by
 have HI:=As.mk (idxM A c l g lb p eg w hr hl hp)
 clear hr hp hl
 cases hR:l.findIdx? p with
 | none =>
  rw[hR]at HI
  unfold ix at HI
  simp only at HI
  clear hR
  go_enter Tryz.func139,Tryz.ntmps139
  go_wp2_with (go_at_call 165;refine HI.out.mono ?_;rintro e w1 ⟨rfl,hb⟩)
  go_ret
  exact⟨rfl,hb⟩
 | some i =>
  rw[hR]at HI
  unfold ix at HI
  simp only at HI
  clear hR
  go_enter Tryz.func139,Tryz.ntmps139
  go_wp2_with (go_at_call 165;refine HI.out.mono ?_;rintro e w1 ⟨rfl,hb⟩)
  go_ret
  exact⟨by simp,hb⟩
theorem litM (x:S91) (b m:Nat) (W:World) (em:∀ args w,(callFunc m args).run Tryz.prog w=.ok (.enter m args) w) (hc:W.cell? ⟨b,0,none⟩=some (.func (.func m) #[] #[])) (hb:b<W.heap.size)
  (hm:∀ W',Below W.heap.size W W'->Calls Tryz.prog m #[encM x] W' fun e W2=>e=.returned (.bool true)/\Below W'.heap.size W' W2) :
  Calls Tryz.prog 140 (#[encM x]++#[.pointer (some ⟨b,0,none⟩)]) W fun e W'=>e=.returned (.bool false)/\Below W.heap.size W W':=by
 have HM:=As.mk hm
 clear hm
 have hne:b≠W.heap.size:=Z1
 unfold encM at *
 show Calls Tryz.prog 140 #[.agg #[.int .i64 x.f0,.int .i64 x.f1],.pointer (some ⟨b,0,none⟩)] W _
 go_enter Tryz.func140,Tryz.ntmps140
 go_wp2_with (go_at_fn m;refine(HM.out _ (below_alloc (Below.refl _ _) _)).mono ?_;rintro e w1 ⟨rfl,hb1⟩)
 go_ret
 exact⟨rfl,bt_ (below_alloc (Below.refl _ _) _) hb1⟩
theorem allM (A:Option Addr) (c:Nat) (l:List S91) (most:Nat) (m:Nat) (em:∀ args w,(callFunc m args).run Tryz.prog w=.ok (.enter m args) w) (w:World) (hr:Kd.C k91 w A l.length l) (hl:l.length≤most) (hm0:most≤1000)
  (hm:∀ x∈l,∀ W',Calls Tryz.prog m #[encM x] W' fun e W2=>e=.returned (.bool true)/\Below W'.heap.size W' W2) :
  Calls Tryz.prog 107 #[.slice A l.length c,.int .i64 most,.func (.func m) #[] #[]] w fun e w'=>e=.returned (.bool true)/\Below w.heap.size w w':=by
 have HB0:=As.mk (below_alloc (Below.refl w.heap.size w) (.cells #[.func (.func m) #[] #[]] 195))
 have hh:=(Go.MapKept.heap_alloc w (.cells #[.func (.func m) #[] #[]] 195)).1
 have hc0:(w.alloc (.cells #[.func (.func m) #[] #[]] 195)).cell? ⟨w.heap.size,0,none⟩=some (.func (.func m) #[] #[]):=Z69
 have hb0:=blk_lt hh
 have HC:=As.mk (conM A c l 140 #[.pointer (some ⟨w.heap.size,0,none⟩)] (fun _=>false) (enters_of Tryz.func140 (Z15) rfl) _ (Kd.C_below hr HB0.out) (Z1)
  (fun W hW x hx=>litM x w.heap.size m W em (pw_cell_below hW hc0) (Nat.lt_of_lt_of_le hb0 hW.size) (fun W' _=>hm x hx W')))
 have hn:(l.findIdx? fun _=>false)=none:=Z83
 rw[hn]at HC
 have hle:(l.length:Int)≤(most:Int):=Z1
 clear hr hl hm0 hm hh hc0 hb0 hn
 go_enter Tryz.func107,Tryz.ntmps107
 go_wp2_with (go_at_call 139;refine HC.out.mono ?_;rintro e w1 ⟨rfl,hb⟩)
 go_ret
 exact⟨rfl,bt_ HB0.out hb⟩
def encS (x:S93):Value:=.agg #[.int .i64 x.f0,.string x.f1]
theorem idxS (A:Option Addr) (c:Nat) (l:List S93) (g:Nat) (lb:Array Value) (p:S93->Bool) (eg:∀ args w,(callFunc g args).run Tryz.prog w=.ok (.enter g args) w) (w:World) (hr:Kd.C k93 w A l.length l) (hl:l.length≤9223372036854775807)
  (hp:∀ W,Below w.heap.size w W->∀ x∈l,Calls Tryz.prog g (#[encS x]++lb) W fun e W'=>e=.returned (.bool (p x))/\Below W.heap.size W W') :
  Calls Tryz.prog 119 #[.slice A l.length c,.func (.func g) #[] lb] w fun e w'=>e=.returned (.int .i64 (ix (l.findIdx? p)))/\Below w.heap.size w w':=by
 have HR:=As.mk hr
 have HP:=As.mk hp
 clear hr hp
 obtain⟨R,hR⟩:∃ R,l.findIdx? p=R:=⟨_,rfl⟩
 have HF0:=As.mk (show ((l.drop 0).findIdx? p).map (0 + ·)=R from Z81)
 rw[hR]
 clear hR
 go_enter Tryz.func119,Tryz.ntmps119
 go_wp2
 go_loopg [5,8] l.length (fun k _ v w'=>∃ (i:Nat),v=.int .i64 i/\i≤l.length/\As (((l.drop i).findIdx? p).map (i + ·)=R)/\As (l.length-i≤k)/\As (Below w.heap.size w w'))
 case atStart=>exact⟨0,rfl,Nat.zero_le _,HF0,⟨Z1⟩,⟨Below.refl _ _⟩⟩
 case round =>
  clear HF0
  obtain⟨i,rfl,hi,HF,HK,HB⟩:=hrel
  by_cases hlt:i<l.length
  ·obtain⟨k1,rfl⟩:∃ k1,gk=k1+1:=⟨gk-1,Z65⟩
   obtain⟨ad,rfl,x0,x1⟩:=at_T93 (Kd.C_below HR.out HB.out) (i:Int) (Z1) (Z1)
   have hltI:(i:Int)<l.length:=Z1
   have hrd:rd_T93 l i=l[i]:=Z84
   have HC:=As.mk (HP.out _ HB.out l[i] (List.getElem_mem hlt))
   have HS:=As.mk ((find_step p l i hlt).symm.trans HF.out)
   rw[Int.toNat_natCast,hrd]at x0 x1
   clear hrd HF
   unfold encS at HC
   generalize l[i]=x at *
   cases hq:p x with
   | true =>
    rw[hq]at HC HS
    have HE:=As.mk ((if_pos rfl).symm.trans HS.out)
    clear HS
    go_wp2_with (go_at_fn g;refine HC.out.mono ?_;rintro e w1 ⟨rfl,hb⟩)
    go_ret
    exact⟨Z82,bt_ HB.out hb⟩
   | false =>
    rw[hq]at HC HS
    have HE:=As.mk ((if_neg (Z31)).symm.trans HS.out)
    clear HS
    go_wp2_with (go_at_fn g;refine HC.out.mono ?_;rintro e w1 ⟨rfl,hb⟩;have HB1:=As.mk (bt_ HB.out hb);clear hb HB)
    go_roundg k1
    case measure=>omega
    case rel=>exact⟨i+1,Z67,Z1,HE,⟨Z65⟩,HB1⟩
  ·obtain rfl:i=l.length:=by omega
   have HE:=As.mk ((find_end p l l.length (Nat.le_refl _)).symm.trans HF.out)
   go_wp2
   go_ret
   exact⟨Z82,HB.out⟩
theorem conS (A:Option Addr) (c:Nat) (l:List S93) (g:Nat) (lb:Array Value) (p:S93->Bool) (eg:∀ args w,(callFunc g args).run Tryz.prog w=.ok (.enter g args) w) (w:World) (hr:Kd.C k93 w A l.length l) (hl:l.length≤9223372036854775807)
  (hp:∀ W,Below w.heap.size w W->∀ x∈l,Calls Tryz.prog g (#[encS x]++lb) W fun e W'=>e=.returned (.bool (p x))/\Below W.heap.size W W') :
  Calls Tryz.prog 144 #[.slice A l.length c,.func (.func g) #[] lb] w fun e w'=>e=.returned (.bool (l.findIdx? p).isSome)/\Below w.heap.size w w':=by
 have HI:=As.mk (idxS A c l g lb p eg w hr hl hp)
 clear hr hp hl
 cases hR:l.findIdx? p with
 | none =>
  rw[hR]at HI
  unfold ix at HI
  simp only at HI
  clear hR
  go_enter Tryz.func144,Tryz.ntmps144
  go_wp2_with (go_at_call 119;refine HI.out.mono ?_;rintro e w1 ⟨rfl,hb⟩)
  go_ret
  exact⟨rfl,hb⟩
 | some i =>
  rw[hR]at HI
  unfold ix at HI
  simp only at HI
  clear hR
  go_enter Tryz.func144,Tryz.ntmps144
  go_wp2_with (go_at_call 119;refine HI.out.mono ?_;rintro e w1 ⟨rfl,hb⟩)
  go_ret
  exact⟨by simp,hb⟩
theorem litS (x:S93) (b m:Nat) (W:World) (em:∀ args w,(callFunc m args).run Tryz.prog w=.ok (.enter m args) w) (hc:W.cell? ⟨b,0,none⟩=some (.func (.func m) #[] #[])) (hb:b<W.heap.size)
  (hm:∀ W',Below W.heap.size W W'->Calls Tryz.prog m #[encS x] W' fun e W2=>e=.returned (.bool true)/\Below W'.heap.size W' W2) :
  Calls Tryz.prog 145 (#[encS x]++#[.pointer (some ⟨b,0,none⟩)]) W fun e W'=>e=.returned (.bool false)/\Below W.heap.size W W':=by
 have HM:=As.mk hm
 clear hm
 have hne:b≠W.heap.size:=Z1
 unfold encS at *
 show Calls Tryz.prog 145 #[.agg #[.int .i64 x.f0,.string x.f1],.pointer (some ⟨b,0,none⟩)] W _
 go_enter Tryz.func145,Tryz.ntmps145
 go_wp2_with (go_at_fn m;refine(HM.out _ (below_alloc (Below.refl _ _) _)).mono ?_;rintro e w1 ⟨rfl,hb1⟩)
 go_ret
 exact⟨rfl,bt_ (below_alloc (Below.refl _ _) _) hb1⟩
theorem allS (A:Option Addr) (c:Nat) (l:List S93) (most:Nat) (m:Nat) (em:∀ args w,(callFunc m args).run Tryz.prog w=.ok (.enter m args) w) (w:World) (hr:Kd.C k93 w A l.length l) (hl:l.length≤most) (hm0:most≤1000)
  (hm:∀ x∈l,∀ W',Calls Tryz.prog m #[encS x] W' fun e W2=>e=.returned (.bool true)/\Below W'.heap.size W' W2) :
  Calls Tryz.prog 111 #[.slice A l.length c,.int .i64 most,.func (.func m) #[] #[]] w fun e w'=>e=.returned (.bool true)/\Below w.heap.size w w':=by
 have HB0:=As.mk (below_alloc (Below.refl w.heap.size w) (.cells #[.func (.func m) #[] #[]] 198))
 have hh:=(Go.MapKept.heap_alloc w (.cells #[.func (.func m) #[] #[]] 198)).1
 have hc0:(w.alloc (.cells #[.func (.func m) #[] #[]] 198)).cell? ⟨w.heap.size,0,none⟩=some (.func (.func m) #[] #[]):=Z69
 have hb0:=blk_lt hh
 have HC:=As.mk (conS A c l 145 #[.pointer (some ⟨w.heap.size,0,none⟩)] (fun _=>false) (enters_of Tryz.func145 (Z15) rfl) _ (Kd.C_below hr HB0.out) (Z1)
  (fun W hW x hx=>litS x w.heap.size m W em (pw_cell_below hW hc0) (Nat.lt_of_lt_of_le hb0 hW.size) (fun W' _=>hm x hx W')))
 have hn:(l.findIdx? fun _=>false)=none:=Z83
 rw[hn]at HC
 have hle:(l.length:Int)≤(most:Int):=Z1
 clear hr hl hm0 hm hh hc0 hb0 hn
 go_enter Tryz.func111,Tryz.ntmps111
 go_wp2_with (go_at_call 144;refine HC.out.mono ?_;rintro e w1 ⟨rfl,hb⟩)
 go_ret
 exact⟨rfl,bt_ HB0.out hb⟩
def encC (x:S165):Value:=.agg #[.int .i64 x.f0,.int .i64 x.f1,.int .i64 x.f2]
theorem idxC (A:Option Addr) (c:Nat) (l:List S165) (g:Nat) (lb:Array Value) (p:S165->Bool) (eg:∀ args w,(callFunc g args).run Tryz.prog w=.ok (.enter g args) w) (w:World) (hr:Kd.C k165 w A l.length l) (hl:l.length≤9223372036854775807)
  (hp:∀ W,Below w.heap.size w W->∀ x∈l,Calls Tryz.prog g (#[encC x]++lb) W fun e W'=>e=.returned (.bool (p x))/\Below W.heap.size W W') :
  Calls Tryz.prog 167 #[.slice A l.length c,.func (.func g) #[] lb] w fun e w'=>e=.returned (.int .i64 (ix (l.findIdx? p)))/\Below w.heap.size w w':=by
 have HR:=As.mk hr
 have HP:=As.mk hp
 clear hr hp
 obtain⟨R,hR⟩:∃ R,l.findIdx? p=R:=⟨_,rfl⟩
 have HF0:=As.mk (show ((l.drop 0).findIdx? p).map (0 + ·)=R from Z81)
 rw[hR]
 clear hR
 go_enter Tryz.func167,Tryz.ntmps167
 go_wp2
 go_loopg [5,8] l.length (fun k _ v w'=>∃ (i:Nat),v=.int .i64 i/\i≤l.length/\As (((l.drop i).findIdx? p).map (i + ·)=R)/\As (l.length-i≤k)/\As (Below w.heap.size w w'))
 case atStart=>exact⟨0,rfl,Nat.zero_le _,HF0,⟨Z1⟩,⟨Below.refl _ _⟩⟩
 case round =>
  clear HF0
  obtain⟨i,rfl,hi,HF,HK,HB⟩:=hrel
  by_cases hlt:i<l.length
  ·obtain⟨k1,rfl⟩:∃ k1,gk=k1+1:=⟨gk-1,Z65⟩
   obtain⟨ad,rfl,x0,x1,x2⟩:=at_T165 (Kd.C_below HR.out HB.out) (i:Int) (Z1) (Z1)
   have hltI:(i:Int)<l.length:=Z1
   have hrd:rd_T165 l i=l[i]:=by unfold rd_T165;rw[Int.toNat_natCast,List.getD_eq_getElem?_getD,List.getElem?_eq_getElem hlt];rfl
   have HC:=As.mk (HP.out _ HB.out l[i] (List.getElem_mem hlt))
   have HS:=As.mk ((find_step p l i hlt).symm.trans HF.out)
   rw[Int.toNat_natCast,hrd]at x0 x1 x2
   clear hrd HF
   unfold encC at HC
   generalize l[i]=x at *
   cases hq:p x with
   | true =>
    rw[hq]at HC HS
    have HE:=As.mk ((if_pos rfl).symm.trans HS.out)
    clear HS
    go_wp2_with (go_at_fn g;refine HC.out.mono ?_;rintro e w1 ⟨rfl,hb⟩)
    go_ret
    exact⟨Z82,bt_ HB.out hb⟩
   | false =>
    rw[hq]at HC HS
    have HE:=As.mk ((if_neg (Z31)).symm.trans HS.out)
    clear HS
    go_wp2_with (go_at_fn g;refine HC.out.mono ?_;rintro e w1 ⟨rfl,hb⟩;have HB1:=As.mk (bt_ HB.out hb);clear hb HB)
    go_roundg k1
    case measure=>omega
    case rel=>exact⟨i+1,Z67,Z1,HE,⟨Z65⟩,HB1⟩
  ·obtain rfl:i=l.length:=by omega
   have HE:=As.mk ((find_end p l l.length (Nat.le_refl _)).symm.trans HF.out)
   go_wp2
   go_ret
   exact⟨Z82,HB.out⟩
theorem conC (A:Option Addr) (c:Nat) (l:List S165) (g:Nat) (lb:Array Value) (p:S165->Bool) (eg:∀ args w,(callFunc g args).run Tryz.prog w=.ok (.enter g args) w) (w:World) (hr:Kd.C k165 w A l.length l) (hl:l.length≤9223372036854775807)
  (hp:∀ W,Below w.heap.size w W->∀ x∈l,Calls Tryz.prog g (#[encC x]++lb) W fun e W'=>e=.returned (.bool (p x))/\Below W.heap.size W W') :
  Calls Tryz.prog 146 #[.slice A l.length c,.func (.func g) #[] lb] w fun e w'=>e=.returned (.bool (l.findIdx? p).isSome)/\Below w.heap.size w w':=by
 have HI:=As.mk (idxC A c l g lb p eg w hr hl hp)
 clear hr hp hl
 cases hR:l.findIdx? p with
 | none =>
  rw[hR]at HI
  unfold ix at HI
  simp only at HI
  clear hR
  go_enter Tryz.func146,Tryz.ntmps146
  go_wp2_with (go_at_call 167;refine HI.out.mono ?_;rintro e w1 ⟨rfl,hb⟩)
  go_ret
  exact⟨rfl,hb⟩
 | some i =>
  rw[hR]at HI
  unfold ix at HI
  simp only at HI
  clear hR
  go_enter Tryz.func146,Tryz.ntmps146
  go_wp2_with (go_at_call 167;refine HI.out.mono ?_;rintro e w1 ⟨rfl,hb⟩)
  go_ret
  exact⟨by simp,hb⟩
theorem litC (x:S165) (b m:Nat) (W:World) (em:∀ args w,(callFunc m args).run Tryz.prog w=.ok (.enter m args) w) (hc:W.cell? ⟨b,0,none⟩=some (.func (.func m) #[] #[])) (hb:b<W.heap.size)
  (hm:∀ W',Below W.heap.size W W'->Calls Tryz.prog m #[encC x] W' fun e W2=>e=.returned (.bool true)/\Below W'.heap.size W' W2) :
  Calls Tryz.prog 147 (#[encC x]++#[.pointer (some ⟨b,0,none⟩)]) W fun e W'=>e=.returned (.bool false)/\Below W.heap.size W W':=by
 have HM:=As.mk hm
 clear hm
 have hne:b≠W.heap.size:=Z1
 unfold encC at *
 show Calls Tryz.prog 147 #[.agg #[.int .i64 x.f0,.int .i64 x.f1,.int .i64 x.f2],.pointer (some ⟨b,0,none⟩)] W _
 go_enter Tryz.func147,Tryz.ntmps147
 go_wp2_with (go_at_fn m;refine(HM.out _ (below_alloc (Below.refl _ _) _)).mono ?_;rintro e w1 ⟨rfl,hb1⟩)
 go_ret
 exact⟨rfl,bt_ (below_alloc (Below.refl _ _) _) hb1⟩
theorem allC (A:Option Addr) (c:Nat) (l:List S165) (most:Nat) (m:Nat) (em:∀ args w,(callFunc m args).run Tryz.prog w=.ok (.enter m args) w) (w:World) (hr:Kd.C k165 w A l.length l) (hl:l.length≤most) (hm0:most≤1000)
  (hm:∀ x∈l,∀ W',Calls Tryz.prog m #[encC x] W' fun e W2=>e=.returned (.bool true)/\Below W'.heap.size W' W2) :
  Calls Tryz.prog 113 #[.slice A l.length c,.int .i64 most,.func (.func m) #[] #[]] w fun e w'=>e=.returned (.bool true)/\Below w.heap.size w w':=by
 have HB0:=As.mk (below_alloc (Below.refl w.heap.size w) (.cells #[.func (.func m) #[] #[]] 200))
 have hh:=(Go.MapKept.heap_alloc w (.cells #[.func (.func m) #[] #[]] 200)).1
 have hc0:(w.alloc (.cells #[.func (.func m) #[] #[]] 200)).cell? ⟨w.heap.size,0,none⟩=some (.func (.func m) #[] #[]):=Z69
 have hb0:=blk_lt hh
 have HC:=As.mk (conC A c l 147 #[.pointer (some ⟨w.heap.size,0,none⟩)] (fun _=>false) (enters_of Tryz.func147 (Z15) rfl) _ (Kd.C_below hr HB0.out) (Z1)
  (fun W hW x hx=>litC x w.heap.size m W em (pw_cell_below hW hc0) (Nat.lt_of_lt_of_le hb0 hW.size) (fun W' _=>hm x hx W')))
 have hn:(l.findIdx? fun _=>false)=none:=Z83
 rw[hn]at HC
 have hle:(l.length:Int)≤(most:Int):=Z1
 clear hr hl hm0 hm hh hc0 hb0 hn
 go_enter Tryz.func113,Tryz.ntmps113
 go_wp2_with (go_at_call 146;refine HC.out.mono ?_;rintro e w1 ⟨rfl,hb⟩)
 go_ret
 exact⟨rfl,bt_ HB0.out hb⟩
def encJ (x:S108):Value:=.agg #[.int .i64 x.f0,.int .i64 x.f1]
theorem idxJ (A:Option Addr) (c:Nat) (l:List S108) (g:Nat) (lb:Array Value) (p:S108->Bool) (eg:∀ args w,(callFunc g args).run Tryz.prog w=.ok (.enter g args) w) (w:World) (hr:Kd.C k108 w A l.length l) (hl:l.length≤9223372036854775807)
  (hp:∀ W,Below w.heap.size w W->∀ x∈l,Calls Tryz.prog g (#[encJ x]++lb) W fun e W'=>e=.returned (.bool (p x))/\Below W.heap.size W W') :
  Calls Tryz.prog 168 #[.slice A l.length c,.func (.func g) #[] lb] w fun e w'=>e=.returned (.int .i64 (ix (l.findIdx? p)))/\Below w.heap.size w w':=by
 have HR:=As.mk hr
 have HP:=As.mk hp
 clear hr hp
 obtain⟨R,hR⟩:∃ R,l.findIdx? p=R:=⟨_,rfl⟩
 have HF0:=As.mk (show ((l.drop 0).findIdx? p).map (0 + ·)=R from Z81)
 rw[hR]
 clear hR
 go_enter Tryz.func168,Tryz.ntmps168
 go_wp2
 go_loopg [5,8] l.length (fun k _ v w'=>∃ (i:Nat),v=.int .i64 i/\i≤l.length/\As (((l.drop i).findIdx? p).map (i + ·)=R)/\As (l.length-i≤k)/\As (Below w.heap.size w w'))
 case atStart=>exact⟨0,rfl,Nat.zero_le _,HF0,⟨Z1⟩,⟨Below.refl _ _⟩⟩
 case round =>
  clear HF0
  obtain⟨i,rfl,hi,HF,HK,HB⟩:=hrel
  by_cases hlt:i<l.length
  ·obtain⟨k1,rfl⟩:∃ k1,gk=k1+1:=⟨gk-1,Z65⟩
   obtain⟨ad,rfl,x0,x1⟩:=at_T108 (Kd.C_below HR.out HB.out) (i:Int) (Z1) (Z1)
   have hltI:(i:Int)<l.length:=Z1
   have hrd:rd_T108 l i=l[i]:=by unfold rd_T108;rw[Int.toNat_natCast,List.getD_eq_getElem?_getD,List.getElem?_eq_getElem hlt];rfl
   have HC:=As.mk (HP.out _ HB.out l[i] (List.getElem_mem hlt))
   have HS:=As.mk ((find_step p l i hlt).symm.trans HF.out)
   rw[Int.toNat_natCast,hrd]at x0 x1
   clear hrd HF
   unfold encJ at HC
   generalize l[i]=x at *
   cases hq:p x with
   | true =>
    rw[hq]at HC HS
    have HE:=As.mk ((if_pos rfl).symm.trans HS.out)
    clear HS
    go_wp2_with (go_at_fn g;refine HC.out.mono ?_;rintro e w1 ⟨rfl,hb⟩)
    go_ret
    exact⟨Z82,bt_ HB.out hb⟩
   | false =>
    rw[hq]at HC HS
    have HE:=As.mk ((if_neg (Z31)).symm.trans HS.out)
    clear HS
    go_wp2_with (go_at_fn g;refine HC.out.mono ?_;rintro e w1 ⟨rfl,hb⟩;have HB1:=As.mk (bt_ HB.out hb);clear hb HB)
    go_roundg k1
    case measure=>omega
    case rel=>exact⟨i+1,Z67,Z1,HE,⟨Z65⟩,HB1⟩
  ·obtain rfl:i=l.length:=by omega
   have HE:=As.mk ((find_end p l l.length (Nat.le_refl _)).symm.trans HF.out)
   go_wp2
   go_ret
   exact⟨Z82,HB.out⟩
theorem conJ (A:Option Addr) (c:Nat) (l:List S108) (g:Nat) (lb:Array Value) (p:S108->Bool) (eg:∀ args w,(callFunc g args).run Tryz.prog w=.ok (.enter g args) w) (w:World) (hr:Kd.C k108 w A l.length l) (hl:l.length≤9223372036854775807)
  (hp:∀ W,Below w.heap.size w W->∀ x∈l,Calls Tryz.prog g (#[encJ x]++lb) W fun e W'=>e=.returned (.bool (p x))/\Below W.heap.size W W') :
  Calls Tryz.prog 148 #[.slice A l.length c,.func (.func g) #[] lb] w fun e w'=>e=.returned (.bool (l.findIdx? p).isSome)/\Below w.heap.size w w':=by
 have HI:=As.mk (idxJ A c l g lb p eg w hr hl hp)
 clear hr hp hl
 cases hR:l.findIdx? p with
 | none =>
  rw[hR]at HI
  unfold ix at HI
  simp only at HI
  clear hR
  go_enter Tryz.func148,Tryz.ntmps148
  go_wp2_with (go_at_call 168;refine HI.out.mono ?_;rintro e w1 ⟨rfl,hb⟩)
  go_ret
  exact⟨rfl,hb⟩
 | some i =>
  rw[hR]at HI
  unfold ix at HI
  simp only at HI
  clear hR
  go_enter Tryz.func148,Tryz.ntmps148
  go_wp2_with (go_at_call 168;refine HI.out.mono ?_;rintro e w1 ⟨rfl,hb⟩)
  go_ret
  exact⟨by simp,hb⟩
theorem litJ (x:S108) (b m:Nat) (W:World) (em:∀ args w,(callFunc m args).run Tryz.prog w=.ok (.enter m args) w) (hc:W.cell? ⟨b,0,none⟩=some (.func (.func m) #[] #[])) (hb:b<W.heap.size)
  (hm:∀ W',Below W.heap.size W W'->Calls Tryz.prog m #[encJ x] W' fun e W2=>e=.returned (.bool true)/\Below W'.heap.size W' W2) :
  Calls Tryz.prog 149 (#[encJ x]++#[.pointer (some ⟨b,0,none⟩)]) W fun e W'=>e=.returned (.bool false)/\Below W.heap.size W W':=by
 have HM:=As.mk hm
 clear hm
 have hne:b≠W.heap.size:=Z1
 unfold encJ at *
 show Calls Tryz.prog 149 #[.agg #[.int .i64 x.f0,.int .i64 x.f1],.pointer (some ⟨b,0,none⟩)] W _
 go_enter Tryz.func149,Tryz.ntmps149
 go_wp2_with (go_at_fn m;refine(HM.out _ (below_alloc (Below.refl _ _) _)).mono ?_;rintro e w1 ⟨rfl,hb1⟩)
 go_ret
 exact⟨rfl,bt_ (below_alloc (Below.refl _ _) _) hb1⟩
theorem allJ (A:Option Addr) (c:Nat) (l:List S108) (most:Nat) (m:Nat) (em:∀ args w,(callFunc m args).run Tryz.prog w=.ok (.enter m args) w) (w:World) (hr:Kd.C k108 w A l.length l) (hl:l.length≤most) (hm0:most≤1000)
  (hm:∀ x∈l,∀ W',Calls Tryz.prog m #[encJ x] W' fun e W2=>e=.returned (.bool true)/\Below W'.heap.size W' W2) :
  Calls Tryz.prog 115 #[.slice A l.length c,.int .i64 most,.func (.func m) #[] #[]] w fun e w'=>e=.returned (.bool true)/\Below w.heap.size w w':=by
 have HB0:=As.mk (below_alloc (Below.refl w.heap.size w) (.cells #[.func (.func m) #[] #[]] 202))
 have hh:=(Go.MapKept.heap_alloc w (.cells #[.func (.func m) #[] #[]] 202)).1
 have hc0:(w.alloc (.cells #[.func (.func m) #[] #[]] 202)).cell? ⟨w.heap.size,0,none⟩=some (.func (.func m) #[] #[]):=Z69
 have hb0:=blk_lt hh
 have HC:=As.mk (conJ A c l 149 #[.pointer (some ⟨w.heap.size,0,none⟩)] (fun _=>false) (enters_of Tryz.func149 (Z15) rfl) _ (Kd.C_below hr HB0.out) (Z1)
  (fun W hW x hx=>litJ x w.heap.size m W em (pw_cell_below hW hc0) (Nat.lt_of_lt_of_le hb0 hW.size) (fun W' _=>hm x hx W')))
 have hn:(l.findIdx? fun _=>false)=none:=Z83
 rw[hn]at HC
 have hle:(l.length:Int)≤(most:Int):=Z1
 clear hr hl hm0 hm hh hc0 hb0 hn
 go_enter Tryz.func115,Tryz.ntmps115
 go_wp2_with (go_at_call 148;refine HC.out.mono ?_;rintro e w1 ⟨rfl,hb⟩)
 go_ret
 exact⟨rfl,bt_ HB0.out hb⟩
end Go.Proofs.YtkffhgiiejbnaaaGreat.Fn
