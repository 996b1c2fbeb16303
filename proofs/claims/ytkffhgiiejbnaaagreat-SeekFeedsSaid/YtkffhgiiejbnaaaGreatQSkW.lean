import Derived.BigQuiet
import Derived.Test.YtkffhgiiejbnaaaGreatQSkG
import Derived.Test.YtkffhgiiejbnaaaGreatQDecU
import Derived.Test.YtkffhgiiejbnaaaGreatQRefL
import Derived.Test.YtkffhgiiejbnaaaGreatQDecN
import Derived.Test.YtkffhgiiejbnaaaGreatQEncU
set_option maxRecDepth 100000
set_option maxHeartbeats 4000000
set_option linter.unusedVariables false
set_option linter.unusedSimpArgs false
namespace Go.Proofs.YtkffhgiiejbnaaaGreat.Sk
open Go.Shelf Go.RowKit YtkffhgiiejbnaaaGreatW.PrintWords YtkffhgiiejbnaaaGreatW.PrintLast YtkffhgiiejbnaaaGreatW.PrintMore Rf Aid Mp Hp Tk Vc En
inductive Fd (d v:Nat) (a:World):World->Prop
 | refl:Fd d v a a
 | kp {b c:World}:Fd d v a b->Kp d b c->Fd d v a c
 | used {b c:World}:Fd d v a b->(∃ cs,b.heap[v]?=some (.cells cs 144 (0,0)))->Used b v c->Fd d v a c
 | far {b c:World} {row:Option Nat}:Fd d v a b->b.grownBy c row->(∀ j,row=some j->a.heap.size≤j)->Fd d v a c
section
variable {d v:Nat} {a b:World}
theorem Fd.size (h:Fd d v a b):a.heap.size≤b.heap.size:=by
 induction h with
 | refl=>exact Nat.le_refl _
 | kp _ k ih=>exact Nat.le_trans ih k.1.size
 | used _ _ hu ih =>
  obtain⟨m,hm⟩:=hu
  exact Nat.le_trans ih (by have:=hm.size;rwa [set_size]at this)
 | far _ hg _ ih=>exact Nat.le_trans ih hg.size
theorem Fd.trans {c:World} (h:Fd d v a b) (k:Fd d v b c):Fd d v a c:=by
 have hs:=h.size
 induction k with
 | refl=>exact h
 | kp _ k ih=>exact .kp ih k
 | used _ hb hu ih=>exact .used ih hb hu
 | far _ hg hr ih=>exact .far ih hg (fun j e=>Nat.le_trans hs (hr j e))
theorem Fd.row {α:Type} {kd:Kd α} {e base:Nat} {ok:Nat->Prop} {x:Value} {xs:List α} (f:Fd d v a b) (h:Kd.R kd e a base ok x xs) (hq:∀ q,q∈e::kd.E->q≠119/\q≠179/\q≠144):Kd.R kd e b base ok x xs:=by
 have h0:Kd.R kd e a base (fun k=>ok k/\k<a.heap.size) x xs:=Kd.R_mono (Kd.R_bound h) (fun k hk=>⟨hk.1,hk.2.2.1⟩)
 refine Kd.R_mono (ok:=fun k=>ok k/\k<a.heap.size) ?_ (fun k hk=>hk.1)
 induction f with
 | refl=>exact h0
 | kp _ k ih=>exact k.R ih (fun q hm=>⟨(hq q hm).1,(hq q hm).2.1⟩)
 | used _ hb hu ih =>
  obtain⟨m,hm⟩:=hu
  obtain⟨cs,hb⟩:=hb
  exact Kd.R_below (Kd.R_set ih hb (fun q hm=>(hq q hm).2.2) 13 (.int .i64 m)) (by rw[set_size];exact hm)
 | far _ hg hr ih=>exact Kd.R_grown ih hg (fun k hk e=>by have:=hr k e.symm;have:=hk.2;omega)
theorem Fd.rw {x:Value} {xs:List Int} (f:Fd d v a b) (h:Rw a x xs):Rw b x xs:=f.row h (fun q hq=>Z147)
theorem Fd.blk {k t:Nat} {cs:Array Value} (f:Fd d v a b) (h:a.heap[k]?=some (.cells cs t (0,0))) (h1:t≠119) (h2:t≠179) (h3:t≠144):b.heap[k]?=some (.cells cs t (0,0)):=by
 have hk:=blk_lt h
 induction f with
 | refl=>exact h
 | kp _ k ih=>exact k.2 _ _ ih (fun cs' fr e=>h1 (Z146)) (fun cs' fr e=>h2 (Z146))
 | used _ hb hu ih =>
  obtain⟨m,hm⟩:=hu
  obtain⟨cs',hb⟩:=hb
  rw[(hm.block _ (blk_lt ih)),Below.heap_setCell _ _ _ _ (fun e=>by
   have e':k=v:=e
   rw[e',hb]at ih
   injection ih with ih
   injection ih with _ ih _
   exact h3 ih.symm)]
  exact ih
 | far f hg hr ih=>exact(hg.block _ (blk_lt ih) (fun e=>by have:=hr k e.symm;omega)).trans ih
theorem Fd.high (f:Fd d v a b) (hd:d≤a.heap.size) {n:Nat} (hn:n≤v) (hv:v<d):Below n a b:=by
 induction f with
 | refl=>exact Below.refl _ _
 | kp _ k ih=>exact ih.trans (k.1.mono (Z1))
 | used f _ hu ih =>
  obtain⟨m,hm⟩:=hu
  exact ih.trans (((Below.refl n _).setCell (p:=⟨v,13,none⟩) hn _).trans (hm.mono (by have:=f.size;omega)))
 | far f hg hr ih=>exact ih.trans ((Below.refl n _).grown hg (by have:=f.size;omega) (fun j e=>by have:=hr j e;omega))
theorem VocAt_bel {s:Vc.Sp} {n:Nat} (h:VocAt a v s) (hb:Below n a b) (hn:v<n):VocAt b v s:=by
 obtain⟨⟨cs,hc⟩,⟨m,hm⟩,w0,pt,pb,pm,h1,h2,h3,h4,h5,h6,h7,h8⟩:=h
 have hk:=hb.block v hn
 have hcell:∀ i x,a.cell? ⟨v,i,none⟩=some x->b.cell? ⟨v,i,none⟩=some x:=fun i x hx=>by
  unfold World.cell? at hx ⊢
  rw[show (⟨v,i,none⟩:Addr).block=v from rfl]at hx ⊢
  rw[hk]
  exact hx
 exact⟨⟨cs,hk.trans hc⟩,⟨m,hcell _ _ hm⟩,w0,pt,pb,pm,h1,h2.trans (hb.mono (Z1)),h3,h4,h5,hcell _ _ h6,hcell _ _ h7,hcell _ _ h8⟩
theorem VocO_bel {s:Vc.Sp} {n lo:Nat} (h:VocO lo a v s) (hb:Below n a b) (hn:v<n):VocO lo b v s:=by
 obtain⟨⟨cs,hc⟩,⟨m,hm⟩,h0,w0,pt,pb,pm,bm,pq,sv,bi,bt,h1,h2,h3,h4,h5,h6,h7,h8⟩:=h
 have hk:=hb.block v hn
 have hcell:∀ i x,a.cell? ⟨v,i,none⟩=some x->b.cell? ⟨v,i,none⟩=some x:=fun i x hx=>by
  unfold World.cell? at hx ⊢
  rw[show (⟨v,i,none⟩:Addr).block=v from rfl]at hx ⊢
  rw[hk]
  exact hx
 exact⟨⟨cs,hk.trans hc⟩,⟨m,hcell _ _ hm⟩,h0,w0,pt,pb,pm,bm,pq,sv,bi,bt,h1,h2.trans (hb.mono (Z1)),h3,h4,h5,hcell _ _ h6,hcell _ _ h7,hcell _ _ h8⟩
theorem Fd.vocO {s:Vc.Sp} {lo:Nat} (f:Fd d v a b) (h:VocO lo a v s) (hd:d≤a.heap.size) (hv:v<d):VocO lo b v s:=by
 induction f with
 | refl=>exact h
 | kp _ k ih=>exact VocO_bel ih k.1 hv
 | used _ _ hu ih=>exact ih.used hu
 | far f hg hr ih=>exact VocO_bel ih ((Below.refl d _).grown hg (by have:=f.size;omega) (fun j e=>by have:=hr j e;omega)) hv
theorem Fd.ref {A0 B0 A3 A4 A5:Option Addr} {c0 d0 c3 c4 c5:Nat} {s:Vc.Sp} (f:Fd d v a b) (h:Rt.RefAt a v A0 B0 A3 A4 A5 c0 d0 c3 c4 c5 s):Rt.RefAt b v A0 B0 A3 A4 A5 c0 d0 c3 c4 c5 s:=by
 obtain⟨⟨base,h1,h2⟩,h3,h4,h5⟩:=h
 exact⟨⟨base,h1,⟨f.row h2.b (Z31),f.row h2.m (Z31)⟩⟩,f.row h3 (Z31),f.row h4 (Z31),f.row h5 (Z31)⟩
theorem SkAt.used {Ap:Option Addr} {cp g:Nat} {lv:Value} {p xs:List Int} {T:Nat} {last:List (Int × Int)} (h:SkAt a d v Ap cp g lv p xs T last) (hb:∃ cs,a.heap[v]?=some (.cells cs 144 (0,0))) (hu:Used a v b):SkAt b d v Ap cp g lv p xs T last:=by
 obtain⟨m,hm⟩:=hu
 obtain⟨cs,hb⟩:=hb
 have hne:d≠v:=fun e=>by
  have h1:=h.blk
  rw[e,hb]at h1
  injection h1 with h1
  injection h1 with _ h1 _
  exact absurd h1 (Z31)
 have hs:SkAt (a.setCell ⟨v,13,none⟩ (.int .i64 m)) d v Ap cp g lv p xs T last :=
  ⟨(Below.heap_setCell a ⟨v,13,none⟩ _ d hne).trans h.blk,Kd.R_set h.hp hb (Z31) 13 _,Kd.R_set h.hb hb (Z31) 13 _,Kd.R_set h.hl hb (Z31) 13 _⟩
 exact hs.below (by rw[set_size];exact hm)
end
structure St where
 xs:List Int
 T:Nat
 L:List (Int × Int)
 told:List S65
def nextL (p:List Int) (st:St):List (Int × Int):=forgetL (p.length:Int) (st.xs.length:Int) st.L++[((st.T:Int),(st.xs.length:Int))]
def stp (s:Vc.Sp) (p:List Int) (st:St) (id:Int):St :=
 ⟨st.xs++itemsOf s id,st.T+1,nextL p st,st.told++(List.range (itemsOf s id).length).flatMap (hitF p st.xs (nextL p st) st.T (itemsOf s id))⟩
def feedS (s:Vc.Sp) (p:List Int) (st:St) (ids:List Int):St:=ids.foldl (stp s p) st
theorem feedS_next (s:Vc.Sp) (p:List Int) (st:St) {ids:List Int} {i:Nat} {id:Int} (h:ids[i]?=some id):feedS s p st (ids.take (i+1))=stp s p (feedS s p st (ids.take i)) id:=by
 unfold feedS
 rw[List.take_add_one,h,List.foldl_append]
 rfl
structure StOk (st:St) (n:Nat):Prop where
 xs:st.xs.length≤64 * n
 T:st.T≤n
 L:st.L.length≤n
 told:st.told.length≤64 * n
 at_:∀ x∈st.L,0≤x.2/\x.2≤(st.xs.length:Int)
theorem stp_ok {s:Vc.Sp} (hs:∀ id,(itemsOf s id).length≤64) {p:List Int} {st:St} {n:Nat} (h:StOk st n) (id:Int):StOk (stp s p st id) (n+1):=by
 have h1:=hs id
 have h2:=hit_len p st.xs (nextL p st) st.T (itemsOf s id) (itemsOf s id).length
 have h3:=forgetL_len (p.length:Int) (st.xs.length:Int) st.L
 refine⟨?_,?_,?_,?_,?_⟩
 ·show (st.xs++itemsOf s id).length≤_;rw[List.length_append];have:=h.xs;omega
 ·show st.T+1≤_;have:=h.T;omega
 ·show (nextL p st).length≤_;unfold nextL;rw[List.length_append,List.length_singleton];have:=h.L;omega
 ·show (st.told++_).length≤_;rw[List.length_append];have:=h.told;omega
 ·intro x hx
  have hx':x∈forgetL (p.length:Int) (st.xs.length:Int) st.L++[((st.T:Int),(st.xs.length:Int))]:=hx
  show 0≤x.2/\x.2≤((st.xs++itemsOf s id).length:Int)
  rw[List.length_append]
  rcases List.mem_append.1 hx' with hm|hm
  ·have:=h.at_ x (List.mem_of_mem_drop hm);omega
  ·rw[List.mem_singleton.1 hm];dsimp only;omega
theorem feedS_ok {s:Vc.Sp} (hs:∀ id,(itemsOf s id).length≤64) {p:List Int}:∀ (ids:List Int) {st:St} {n:Nat},StOk st n->StOk (feedS s p st ids) (n+ids.length)
 | [],st,n,h=>h
 | id::l,st,n,h=>by
  have:=feedS_ok hs (p:=p) l (stp_ok (p:=p) hs h id)
  rw[show n+(id::l).length=n+1+l.length by rw[List.length_cons];omega]
  exact this
end Go.Proofs.YtkffhgiiejbnaaaGreat.Sk
namespace Go.Proofs.YtkffhgiiejbnaaaGreat.Sk
open Go.Shelf Go.RowKit YtkffhgiiejbnaaaGreatW.PrintWords YtkffhgiiejbnaaaGreatW.PrintLast YtkffhgiiejbnaaaGreatW.PrintMore Rf Aid Mp Hp Tk Vc En Go.Proofs.YtkffhgiiejbnaaaGreat.Fn
theorem cloFeed {W:World} {b d v:Nat} {s:Vc.Sp} {Ap:Option Addr} {cp g:Nat} {lv:Value} {p xs:List Int} {T:Nat} {last:List (Int × Int)} (hs:SkAt W d v Ap cp g lv p xs T last) (hv:VocAt W v s) (hc:W.cell? ⟨b,0,none⟩=some (.pointer (some ⟨d,0,none⟩))) (n:Int) :
  Calls Tryz.prog 69 (#[encI n]++#[.pointer (some ⟨b,0,none⟩)]) W fun e W'=>e=.returned (.bool (!hasId s n))/\Below W.heap.size W W':=by
 have H:=As.mk hv
 have c2:=Vc.cell_of (i:=2) hs.blk rfl
 clear hv hs
 unfold encI
 show Calls Tryz.prog 69 #[.int .i64 n,.pointer (some ⟨b,0,none⟩)] W _
 go_enter Tryz.func69,Tryz.ntmps69
 go_wp2_with (go_at_call 70;refine(has_ok H.out n).mono ?_;rintro e w1 ⟨rfl,rfl⟩)
 go_ret
 exact⟨rfl,Below.refl _ _⟩
theorem blk_use {w w':World} {v g t:Nat} {cs:Array Value} (hu:Used w v w') (h:w.heap[g]?=some (.cells cs t (0,0))) (hne:g≠v):w'.heap[g]?=some (.cells cs t (0,0)):=by
 obtain⟨m,hm⟩:=hu
 have h1:=blk_far h (p:=⟨v,13,none⟩) hne (.int .i64 m)
 exact(hm.block _ (by have:=blk_lt h;simpa[World.setCell] using this)).trans h1
theorem R_used {α:Type} {kd:Kd α} {e base v:Nat} {ok:Nat->Prop} {x:Value} {xs:List α} {a b:World} (h:Kd.R kd e a base ok x xs) (hb:∃ cs,a.heap[v]?=some (.cells cs 144 (0,0))) (hu:Used a v b) (hq:∀ q,q∈e::kd.E->q≠144):Kd.R kd e b base ok x xs:=by
 obtain⟨m,hm⟩:=hu
 obtain⟨cs,hb⟩:=hb
 exact Kd.R_below (Kd.R_set h hb hq 13 (.int .i64 m)) (by rw[set_size];exact hm)
theorem one_items {W:World} {v:Nat} {s:Vc.Sp} (hv:VocAt W v s) (id:Int) (hit:itF s [id] 0 []=(itemsOf s id,1,0)):Calls Tryz.prog 29 #[.pointer (some ⟨v,0,none⟩),.slice (some ⟨W.heap.size,0,none⟩) 1 1] (W.alloc (.cells #[.int .i64 id] 3)) fun e w'=>∃ sv:Value,e=.returned (.tuple #[sv,.int .i64 1,.int .i64 0])/\Kd.R (Kd.int .i64) 3 w' W.heap.size (fun _=>True) sv (itemsOf s id)/\VocAt w' v s/\Used (W.alloc (.cells #[.int .i64 id] 3)) v w':=by
 have hb:=below_alloc (Below.refl W.heap.size W) (.cells #[.int .i64 id] 3)
 have hv2:=hv.below hb
 have hr:Kd.R (Kd.int .i64) 3 (W.alloc (.cells #[.int .i64 id] 3)) W.heap.size (fun _=>True) (.slice (some ⟨W.heap.size,0,none⟩) 1 1) [id]:=Kd.R_of_own (own_lit W W.heap.size 3 .i64 [id] (Nat.le_refl _) (by simp)) (fun _ _=>trivial)
 obtain⟨cs,hcs⟩:=hv2.blk
 have h:=Vc.items_any hv2 (some ⟨W.heap.size,0,none⟩) 1 [id] (fun m=>(Kd.R_reads' (Kd.R_set hr hcs (Z31) 13 (.int .i64 m))).2.2) (by simp)
 rw[hit]at h
 refine h.mono ?_
 rintro e w' ⟨sv,rfl,ho,hv',hu⟩
 exact⟨sv,rfl,Kd.R_lower ho hb.size,hv',hu⟩
theorem feed_sk {w:World} {d v:Nat} {Ap:Option Addr} {cp g:Nat} {lv:Value} {p:List Int} {st:St} {s:Vc.Sp} (h:SkAt w d v Ap cp g lv p st.xs st.T st.L) (hv:VocAt w v s) (hvd:v<d) (hp:p≠[]) (hpl:p.length≤64) {N:Nat} (hst:StOk st N) (hN:N≤100000) (ht0:st.told=[])
  {A:Option Addr} {c:Nat} {ids:List Int} (hi:∀ W,Fd d v w W->Kd.C (Kd.int .i64) W A ids.length ids) (hil:ids.length≤4000) :
  Calls Tryz.prog 27 #[.pointer (some ⟨d,0,none⟩),.slice A ids.length c] w fun e w'=>(match ids.findIdx? (fun n=>!hasId s n) with
   | some i=>e=.returned (.tuple #[.slice none 0 0,.int .i64 (i:Int),.int .i64 4])/\Below w.heap.size w w'
   | none=>∃ u lv',e=.returned (.tuple #[u,.int .i64 (ids.length:Int),.int .i64 0])/\Kd.R k65 65 w' w.heap.size (fun _=>True) u (feedS s p st ids).told/\SkAt w' d v Ap cp g lv' p (feedS s p st ids).xs (feedS s p st ids).T (feedS s p st ids).L/\Fd d v w w'/\VocAt w' v s):=by
 have HB:=As.mk (below_alloc (Below.refl w.heap.size w) (.cells #[.pointer (some ⟨d,0,none⟩)] 57))
 have hdw:=blk_lt h.blk
 have c0:=box_of w (.pointer (some ⟨d,0,none⟩)) 57
 have hbox:=(Go.MapKept.heap_alloc w (.cells #[.pointer (some ⟨d,0,none⟩)] 57 (0,0))).1
 have hf1:Fd d v w (w.alloc (.cells #[.pointer (some ⟨d,0,none⟩)] 57)):=.kp .refl (Kp.of HB.out (Nat.le_of_lt hdw))
 have hx:=idxI A c ids 69 #[.pointer (some ⟨w.heap.size,0,none⟩)] (fun n=>!hasId s n) (enters_of Tryz.func69 (Z15) rfl) (w.alloc (.cells #[.pointer (some ⟨d,0,none⟩)] 57)) (hi _ hf1) (Z1)
  (fun W hW x hx=>cloFeed (h.below (HB.out.trans (hW.mono HB.out.size))) (hv.below (HB.out.trans (hW.mono HB.out.size))) (pw_cell_below hW c0) x)
 have HX:=As.mk hx
 have HS:=As.mk h
 have HV:=As.mk hv
 have HI:=As.mk hi
 have HN:=As.mk hbox
 have HDW:=As.mk (And.intro hdw hvd)
 have HP:=As.mk (And.intro hp hpl)
 have HST:=As.mk (And.intro hst hN)
 have HT0:=As.mk ht0
 have hg:¬ (4000:Int)<(ids.length:Int):=Z1
 clear h hv hi hx hbox hst hf1
 cases hw:ids.findIdx? (fun n=>!hasId s n) with
 | some i =>
  rw[hw]at HX
  unfold ix at HX
  simp only at HX ⊢
  have hi0:(0:Int)≤(i:Int):=Z1
  clear hw
  go_enter Tryz.func27,Tryz.ntmps27
  go_wp2_with (go_at_call 59;refine HX.out.mono ?_;rintro e w1 ⟨rfl,hb⟩;have HB1:=As.mk (HB.out.trans (hb.mono HB.out.size));clear hb)
  go_ret3
  exact⟨rfl,HB1.out⟩
 | none =>
  have HAS:=As.mk (fun(x:Int) (hx:x∈ids)=>(by have:=List.findIdx?_eq_none_iff.1 hw x hx;simpa using this:hasId s x=true))
  rw[hw]at HX
  unfold ix at HX
  simp only at HX ⊢
  have hlen:∀ id,(itemsOf s id).length≤64:=fun id=>items_len HV.out id
  have HLN:=As.mk hlen
  clear hw hlen
  go_enter Tryz.func27,Tryz.ntmps27
  go_wp2_with (go_at_call 59;refine HX.out.mono ?_;rintro e w1 ⟨rfl,hb⟩;have HB1:=As.mk (HB.out.trans (hb.mono HB.out.size));have HN1:=As.mk ((hb.block _ (blk_lt HN.out)).trans HN.out);clear hb c0)
  go_loopg [8,29] ids.length (fun k v8 v29 W=>∃ (i:Nat) (lv:Value),v29=.int .i64 (i:Int)/\i≤ids.length/\As (ids.length-i≤k)/\As (SkAt W d v Ap cp g lv p (feedS s p st (ids.take i)).xs (feedS s p st (ids.take i)).T (feedS s p st (ids.take i)).L)/\As (VocAt W v s)/\As (Fd d v w W)/\As (Kd.R k65 65 W w.heap.size (fun _=>True) v8 (feedS s p st (ids.take i)).told)/\As (W.heap[w.heap.size]?=some (.cells #[.pointer (some ⟨d,0,none⟩)] 57 (0,0))))
  case atStart=>exact⟨0,lv,rfl,Nat.zero_le _,⟨Z1⟩,⟨HS.out.below HB1.out⟩,⟨HV.out.below HB1.out⟩,⟨.kp .refl (Kp.of HB1.out (Nat.le_of_lt HDW.out.1))⟩,⟨by show Kd.R _ _ _ _ _ _ st.told;rw[HT0.out];exact Kd.R_nil _ _ _ _ _⟩,HN1⟩
  case round =>
   clear HN1
   obtain⟨i,lv,rfl,hi,HK,HS,HV,HF,HO,HN⟩:=hrel
   rename World=>W
   by_cases hlt:i<ids.length
   ·have hltI:(i:Int)<(ids.length:Int):=by omega
    obtain⟨k1,rfl⟩:∃ k1,gk=k1+1:=⟨gk-1,Z65⟩
    obtain⟨id,hid⟩:∃ id,ids[i]?=some id:=⟨_,List.getElem?_eq_getElem hlt⟩
    have hmem:=HAS.out id (List.mem_of_getElem? hid)
    obtain⟨ad,rfl,xr⟩:=rd_at (HI.out W HF.out) hid
    have hnx:=feedS_next s p st hid
    have hok:=feedS_ok HLN.out (p:=p) (ids.take i) HST.out.1
    rw[List.length_take]at hok
    have HNX:=As.mk hnx
    have HOK:=As.mk hok
    have HIT:=As.mk (show itF s [id] 0 []=(itemsOf s id,1,0) by unfold itF itF;rw[if_pos hmem];rfl)
    clear hid hmem hnx hok
    generalize feedS s p st (ids.take i)=si at *
    have n0:=cell_of0 HN.out
    have c2:=Vc.cell_of (i:=2) HS.out.blk rfl
    have hTB:=HOK.out
    have hNB:=HST.out.2
    have hmin:min i ids.length≤4000:=Z1
    have HBD:=As.mk (show si.L.length≤1000000/\si.xs.length≤1000000000/\si.T≤1000000000/\si.told.length≤10000000 from⟨by have:=hTB.L;omega,by have:=hTB.xs;omega,by have:=hTB.T;omega,by have:=hTB.told;omega⟩)
    have HAT:=As.mk hTB.at_
    obtain⟨H,hH⟩:∃ H,H=(List.range (itemsOf s id).length).flatMap (hitF p si.xs (nextL p si) si.T (itemsOf s id)):=⟨_,rfl⟩
    have HHL:=As.mk (show H.length≤(itemsOf s id).length by rw[hH];exact hit_len p si.xs (nextL p si) si.T (itemsOf s id) (itemsOf s id).length)
    have HHH:=As.mk hH
    clear hH
    have HI64:=As.mk (HLN.out id)
    have hneb:w.heap.size≠v:=by have:=HDW.out;omega
    have hdsz:=HF.out.size
    have hw29:wrap64 ((i:Int)+1)=(i:Int)+1:=w64 (Z1) (Z1)
    have HHB:=As.mk (And.intro hneb hdsz)
    clear hTB hNB hmin hneb hdsz
    go_wp2_with (first
     | (go_at_call 29;go_loud (refine(one_items HV.out id HIT.out).mono ?_;rintro e w3 ⟨sv,rfl,ho,hv,hu⟩;have hba:=below_alloc (Below.refl W.heap.size W) (.cells #[.int .i64 id] 3);have hvb:=(HV.out.below hba).blk;have HS3:=As.mk ((HS.out.below hba).used hvb hu);have HV3:=As.mk hv;have HF3:=As.mk (Fd.used (.kp HF.out (Kp.of hba (Nat.le_trans (Nat.le_of_lt HDW.out.1) HHB.out.2))) hvb hu);have HO3:=As.mk (R_used (Kd.R_below HO.out hba) hvb hu (Z31));have HN3:=As.mk (blk_use hu ((hba.block _ (blk_lt HN.out)).trans HN.out) HHB.out.1);have HI3:=As.mk (Rw.of ho);clear ho hv hu hba hvb n0 c2 xr HV HF HO HN HS;obtain⟨A3,c3,rfl⟩:=HI3.out.form;have n0:=cell_of0 HN3.out))
     | (go_at_call 71;go_loud (refine(token_sk HS3.out HP.out.1 HP.out.2 HBD.out.1 HAT.out HBD.out.2.1 HBD.out.2.2.1 HI3.out (by have:=HI64.out;omega)).mono ?_;rintro e w4 ⟨u,lv4,rfl,ho,hs,hk⟩;have HU4:=As.mk (show Kd.R k65 65 w4 w3.heap.size (fun _=>True) u H by rw[HHH.out];exact ho);have HS4:=As.mk hs;have HV4:=As.mk (VocAt_bel HV3.out hk.1 HDW.out.2);have HF4:=As.mk (Fd.kp HF3.out hk);have HO4:=As.mk (hk.R HO3.out (Z31));have HN4:=As.mk (hk.2 _ _ HN3.out (fun cs fr e=>by injection e with _ e _;exact absurd e (Z31)) (fun cs fr e=>by injection e with _ e _;exact absurd e (Z31)));clear ho hs hk n0 HS3 HV3 HF3 HO3 HN3 HI3;obtain⟨A4,c4,rfl⟩:=Kd.R_slice HU4.out))
     | ((with_reducible refine gate_builtin (b:=.append) (xs:=#[.tmp 44,.tmp 47]) rfl ?_);at_builtin;refine Kd.R_append_rows k65 (Rr:=k65.K w4) (w0:=w4) w.heap.size rfl (.tmp 44) (.tmp 47) 60 65 (.agg #[.int .i64 0,.int .i64 0,.int .i64 0,.bool false]) 32 rfl Tryz.underlying60 info_mt rfl (Z31) (Z1) _ _ _ _ _ _ (fun _=>True) (fun _=>False) (by rfl) (by rfl) HO4.out (Kd.R_reads' HU4.out).2.2 (fun x cs hk=>by rw[k65_open hk];exact k65_mkM _ _ _ x) (fun _ hk=>hk.elim) (fun _ _=>trivial) (Below.refl _ _) HF4.out.size (by have h1:=HBD.out.2.2.2;have h2:=HHL.out;have h3:=HI64.out;omega) ?_;intro u5 w5 ho hb hg hat;have hfar:=match_far HO4.out hg;have HO5:=As.mk ho;have HS5:=As.mk (HS4.out.far hfar);have HF5:=As.mk (Fd.far HF4.out hg (fun j e=>((Kd.R_bound HO4.out).1 j e).2.1));have HV5:=As.mk (VocAt_bel HV4.out ((Below.refl d w4).grown hg (Nat.le_trans (Nat.le_of_lt HDW.out.1) HF4.out.size) (fun j e=>Nat.le_trans (Nat.le_of_lt HDW.out.1) ((Kd.R_bound HO4.out).1 j e).2.1)) HDW.out.2);have HN5:=As.mk ((hfar _ _ _ HN4.out (Z31)).trans HN4.out);clear ho hb hg hat hfar))
    go_roundg k1
    case measure=>omega
    case rel=>exact⟨i+1,lv4,Z67,Z1,⟨Z65⟩,⟨by rw[HNX.out];exact HS5.out⟩,HV5,HF5,⟨by rw[HNX.out];show Kd.R _ _ _ _ _ _ (si.told++(List.range (itemsOf s id).length).flatMap (hitF p si.xs (nextL p si) si.T (itemsOf s id)));rw[←HHH.out];exact HO5.out⟩,HN5⟩
   ·obtain rfl:i=ids.length:=by omega
    have hS:=HS.out
    have hO:=HO.out
    rw[List.take_length]at hS hO
    have HSE:=As.mk hS
    have HOE:=As.mk hO
    clear hS hO
    go_wp2
    go_ret3
    exact⟨_,lv,rfl,HOE.out,HSE.out,HF.out,HV.out⟩
end Go.Proofs.YtkffhgiiejbnaaaGreat.Sk
namespace Go.Proofs.YtkffhgiiejbnaaaGreat.Sk
open Go.Shelf Go.RowKit YtkffhgiiejbnaaaGreatW.PrintWords YtkffhgiiejbnaaaGreatW.PrintLast YtkffhgiiejbnaaaGreatW.PrintMore Rf Aid Mp Hp Tk Vc En Rt
def posL (p xs:List Int):List Nat:=(List.range (xs.length+1-p.length)).filter (fun a=>decide ((xs.drop a).take p.length=p))
theorem posL_snoc {p xs:List Int} {y:Int} (hp:p≠[]):posL p (xs++[y])=posL p xs++(if metF p (xs++[y])=p.length then [xs.length+1-p.length] else []):=by
 have hpos:=List.length_pos_iff.2 hp
 unfold posL
 rw[List.length_append,List.length_singleton]
 by_cases hl:xs.length+1<p.length
 ·rw[show xs.length+1+1-p.length=0 from Z1,show xs.length+1-p.length=0 from Z1,if_neg]
  ·rfl
  ·intro h
   have:=(metF_ends p (xs++[y])).len
   rw[h,List.length_append,List.length_singleton]at this
   omega
 ·rw[show xs.length+1+1-p.length=(xs.length+1-p.length)+1 from Z1,List.range_succ,List.filter_append]
  congr 1
  ·refine List.filter_congr fun a ha=>?_
   have:=List.mem_range.1 ha
   rw[List.drop_append_of_le_length (Z1),List.take_append_of_le_length (Z2)]
  ·have hdl:((xs++[y]).drop (xs.length+1-p.length)).length=p.length:=by rw[List.length_drop,List.length_append,List.length_singleton];omega
   rw[List.filter_cons,List.filter_nil,List.take_of_length_le (Nat.le_of_eq hdl)]
   have hiff:(xs++[y]).drop (xs.length+1-p.length)=p↔metF p (xs++[y])=p.length:=by
    rw[met_whole]
    constructor
    ·intro h
     have h2:=List.drop_suffix (xs.length+1-p.length) (xs++[y])
     rw[h]at h2
     exact h2
    ·rintro⟨t,ht⟩
     have hlen:=congrArg List.length ht
     rw[List.length_append,List.length_append,List.length_singleton]at hlen
     rw[←ht,show xs.length+1-p.length=t.length from Z1,List.drop_left]
   by_cases h:metF p (xs++[y])=p.length
   ·rw[if_pos h,if_pos (by rw[decide_eq_true_eq];exact hiff.2 h)]
   ·rw[if_neg h,if_neg (by rw[decide_eq_true_eq];exact fun e=>h (hiff.1 e))]
end Go.Proofs.YtkffhgiiejbnaaaGreat.Sk
namespace Go.Proofs.YtkffhgiiejbnaaaGreat.Sk
open Go.Shelf Go.RowKit YtkffhgiiejbnaaaGreatW.PrintWords YtkffhgiiejbnaaaGreatW.PrintLast YtkffhgiiejbnaaaGreatW.PrintMore Rf Aid Mp Hp Tk Vc En Rt
def startS (s:Vc.Sp) (l:List Int) (i:Nat):Nat:=(itL s (l.take i)).length
def firstI (s:Vc.Sp) (l:List Int) (a:Nat):Nat->Int × Bool
 | 0=>(0,false)
 | i+1=>if startS s l i≤a/\a<startS s l (i+1) then ((i:Int),decide (a=startS s l i)) else firstI s l a i
def lastI (s:Vc.Sp) (l:List Int) (b:Nat):Nat->Int × Bool
 | 0=>(0,false)
 | i+1=>if startS s l i≤b/\b<startS s l (i+1) then ((i:Int),decide (b+1=startS s l (i+1))) else lastI s l b i
def matF (s:Vc.Sp) (p l:List Int) (a:Nat):S65 :=
 ⟨(a:Int),(firstI s l a l.length).1,(lastI s l (a+p.length-1) l.length).1,(firstI s l a l.length).2 && (lastI s l (a+p.length-1) l.length).2⟩
def matL (s:Vc.Sp) (p l:List Int):List S65:=(posL p (itL s l)).map (matF s p l)
def upTo (s:Vc.Sp) (l:List Int) (i:Nat):List (Int × Int):=(List.range i).map (fun k:Nat=>((k:Int),(startS s l k:Int)))
theorem itL_one (s:Vc.Sp) (x:Int):itL s [x]=itemsOf s x:=by unfold itL;simp
theorem start_next {s:Vc.Sp} {l:List Int} {i:Nat} {x:Int} (h:l[i]?=some x):startS s l (i+1)=startS s l i+(itemsOf s x).length:=by
 unfold startS
 rw[List.take_add_one,h,Option.toList_some,itL_app,itL_one,List.length_append]
theorem start_zero (s:Vc.Sp) (l:List Int):startS s l 0=0:=by simp[startS,itL]
theorem start_all (s:Vc.Sp) (l:List Int):startS s l l.length=(itL s l).length:=by unfold startS;rw[List.take_length]
theorem start_snoc {s:Vc.Sp} {l:List Int} {x:Int} {i:Nat} (h:i≤l.length):startS s (l++[x]) i=startS s l i:=by
 unfold startS
 rw[List.take_append_of_le_length h]
theorem start_end (s:Vc.Sp) (l:List Int) (x:Int):startS s (l++[x]) (l.length+1)=(itL s l).length+(itemsOf s x).length:=by
 rw[show l.length+1=(l++[x]).length by simp,start_all,itL_app,itL_one,List.length_append]
theorem firstI_snoc {s:Vc.Sp} {l:List Int} {x:Int} {a:Nat}:∀ {i:Nat},i≤l.length->firstI s (l++[x]) a i=firstI s l a i
 | 0,_=>rfl
 | i+1,h=>by
  unfold firstI
  rw[start_snoc h,start_snoc (Z1),firstI_snoc (Z1)]
theorem lastI_snoc {s:Vc.Sp} {l:List Int} {x:Int} {a:Nat}:∀ {i:Nat},i≤l.length->lastI s (l++[x]) a i=lastI s l a i
 | 0,_=>rfl
 | i+1,h=>by
  unfold lastI
  rw[start_snoc h,start_snoc (Z1),lastI_snoc (Z1)]
theorem upTo_snoc {s:Vc.Sp} {l:List Int} {x:Int}:upTo s (l++[x]) l.length=upTo s l l.length:=by
 unfold upTo
 refine List.map_congr_left fun k hk=>?_
 rw[start_snoc (by have:=List.mem_range.1 hk;omega)]
theorem upTo_next (s:Vc.Sp) (l:List Int) (i:Nat):upTo s l (i+1)=upTo s l i++[((i:Int),(startS s l i:Int))]:=by
 unfold upTo
 rw[List.range_succ,List.map_append]
 rfl
theorem firstF_snoc (X:List (Int × Int)) (y:Int × Int) (a:Int):firstF (X++[y]) a=if y.2≤a then y else firstF X a:=by
 have h:=firstF_take (last:=X++[y]) (at_:=a) (j:=X.length) (x:=y) (by simp)
 rw[List.take_of_length_le (by simp),List.take_left]at h
 exact h
theorem first_eq {s:Vc.Sp} {l:List Int} {a:Nat}:∀ {i:Nat},a<startS s l i->firstI s l a i=((firstF (upTo s l i) (a:Int)).1,(firstF (upTo s l i) (a:Int)).2==(a:Int))
 | 0,h=>by rw[start_zero]at h;omega
 | i+1,h=>by
  rw[upTo_next,firstF_snoc]
  unfold firstI
  by_cases hi:startS s l i≤a
  ·rw[if_pos ⟨hi,h⟩,if_pos (by dsimp only;omega)]
   congr 1
   rw[Bool.eq_iff_iff]
   simp
   omega
  ·rw[if_neg (fun k=>hi k.1),if_neg (by dsimp only;omega)]
   exact first_eq (Z1)
theorem firstF_cons (x y:Int × Int) (l:List (Int × Int)) {a:Int} (h:y.2≤a):firstF (x::y::l) a=firstF (y::l) a:=by
 unfold firstF
 rw[List.reverse_cons,List.find?_append]
 cases hf:(y::l).reverse.find? (fun x=>decide (x.2≤a)) with
 | some z=>rfl
 | none =>
  have:=List.find?_eq_none.1 hf y (by simp)
  simp at this
  omega
theorem firstF_forget {pl it a:Int} (h:it+1≤a+pl):∀ L:List (Int × Int),firstF (forgetL pl it L) a=firstF L a
 | []=>rfl
 | [_]=>rfl
 | x::y::l=>by
  have ih:=firstF_forget h (y::l)
  unfold forgetL at ih ⊢
  unfold forgetN
  by_cases hy:y.2+pl≤it
  ·rw[if_pos hy,List.drop_succ_cons,ih,firstF_cons x y l (Z1)]
  ·rw[if_neg hy]
   rfl
structure Inv (s:Vc.Sp) (p l:List Int) (st:St):Prop where
 xs:st.xs=itL s l
 T:st.T=l.length
 L:∀ a:Int,(st.xs.length:Int)+1≤a+(p.length:Int)->firstF st.L a=firstF (upTo s l l.length) a
 told:st.told=matL s p l
theorem mat_old {s:Vc.Sp} {p l:List Int} {x:Int} {a:Nat} (hp:p≠[]) (h:a+p.length≤(itL s l).length):matF s p (l++[x]) a=matF s p l a:=by
 have hpos:=List.length_pos_iff.2 hp
 have e1:firstI s (l++[x]) a (l++[x]).length=firstI s l a l.length:=by
  rw[List.length_append,List.length_singleton]
  rw[show firstI s (l++[x]) a (l.length+1)=if startS s (l++[x]) l.length≤a/\a<startS s (l++[x]) (l.length+1) then ((l.length:Int),decide (a=startS s (l++[x]) l.length)) else firstI s (l++[x]) a l.length from rfl]
  rw[start_snoc (Nat.le_refl _),start_all,if_neg (Z1),firstI_snoc (Nat.le_refl _)]
 have e2:lastI s (l++[x]) (a+p.length-1) (l++[x]).length=lastI s l (a+p.length-1) l.length:=by
  rw[List.length_append,List.length_singleton]
  rw[show lastI s (l++[x]) (a+p.length-1) (l.length+1)=if startS s (l++[x]) l.length≤a+p.length-1/\a+p.length-1<startS s (l++[x]) (l.length+1) then ((l.length:Int),decide (a+p.length-1+1=startS s (l++[x]) (l.length+1))) else lastI s (l++[x]) (a+p.length-1) l.length from rfl]
  rw[start_snoc (Nat.le_refl _),start_all,if_neg (Z1),lastI_snoc (Nat.le_refl _)]
 unfold matF
 rw[e1,e2]
theorem pos_le {p xs:List Int} {a:Nat} (h:a∈posL p xs):a+p.length≤xs.length:=by
 unfold posL at h
 have:=List.mem_range.1 (List.mem_filter.1 h).1
 omega
theorem next_first {s:Vc.Sp} {p l:List Int} {st:St} (h:Inv s p l st) (x:Int) {a:Int} (ha:(st.xs.length:Int)+1≤a+(p.length:Int)):firstF (nextL p st) a=firstF (upTo s (l++[x]) (l.length+1)) a:=by
 unfold nextL
 rw[upTo_next,upTo_snoc,firstF_snoc,firstF_snoc,firstF_forget ha,h.L a ha,start_snoc (Nat.le_refl _),start_all,←h.xs,←h.T]
theorem mat_hit {s:Vc.Sp} {p l:List Int} {st:St} (hp:p≠[]) (h:Inv s p l st) (x:Int) {j:Nat} (hj:j<(itemsOf s x).length) (hl:p.length≤st.xs.length+j+1) :
  matF s p (l++[x]) (st.xs.length+j+1-p.length)=⟨atF p st.xs j,(firstF (nextL p st) (atF p st.xs j)).1,(st.T:Int),(firstF (nextL p st) (atF p st.xs j)).2==atF p st.xs j && ((j:Int)+1==((itemsOf s x).length:Int))⟩:=by
 have hpos:=List.length_pos_iff.2 hp
 have ea:((st.xs.length+j+1-p.length:Nat):Int)=atF p st.xs j:=by unfold atF;omega
 have hx:(itL s l).length=st.xs.length:=by rw[h.xs]
 have e1:firstI s (l++[x]) (st.xs.length+j+1-p.length) (l++[x]).length=((firstF (nextL p st) (atF p st.xs j)).1,(firstF (nextL p st) (atF p st.xs j)).2==atF p st.xs j):=by
  rw[List.length_append,List.length_singleton,first_eq (by rw[start_end,hx];omega),ea,next_first h x (by unfold atF;omega)]
 have e2:lastI s (l++[x]) (st.xs.length+j+1-p.length+p.length-1) (l++[x]).length=((st.T:Int),(j:Int)+1==((itemsOf s x).length:Int)):=by
  rw[List.length_append,List.length_singleton,show st.xs.length+j+1-p.length+p.length-1=st.xs.length+j from Z1]
  rw[show lastI s (l++[x]) (st.xs.length+j) (l.length+1)=if startS s (l++[x]) l.length≤st.xs.length+j/\st.xs.length+j<startS s (l++[x]) (l.length+1) then ((l.length:Int),decide (st.xs.length+j+1=startS s (l++[x]) (l.length+1))) else lastI s (l++[x]) (st.xs.length+j) l.length from rfl]
  rw[start_snoc (Nat.le_refl _),start_all,start_end,hx,if_pos (Z1),h.T]
  congr 1
  rw[Bool.eq_iff_iff]
  simp
  omega
 unfold matF
 rw[e1,e2,ea]
theorem hits_full {s:Vc.Sp} {p l:List Int} {st:St} (hp:p≠[]) (h:Inv s p l st) (x:Int):∀ j,j≤(itemsOf s x).length->(posL p (st.xs++(itemsOf s x).take j)).map (matF s p (l++[x]))=(posL p st.xs).map (matF s p l)++(List.range j).flatMap (hitF p st.xs (nextL p st) st.T (itemsOf s x))
 | 0,_=>by
  rw[List.take_zero,List.append_nil,List.range_zero,List.flatMap_nil,List.append_nil]
  refine List.map_congr_left fun a ha=>mat_old hp ?_
  have:=pos_le ha
  rw[h.xs]at this
  exact this
 | j+1,hj=>by
  have ih:=hits_full hp h x j (Z1)
  obtain⟨y,hy⟩:∃ y,(itemsOf s x)[j]?=some y:=⟨_,List.getElem?_eq_getElem (Z1)⟩
  have e:st.xs++(itemsOf s x).take (j+1)=(st.xs++(itemsOf s x).take j)++[y]:=Z153
  rw[hit_next,←List.append_assoc,←ih,e,posL_snoc hp,List.map_append]
  congr 1
  unfold hitF
  rw[e]
  by_cases hm:metF p ((st.xs++(itemsOf s x).take j)++[y])=p.length
  ·rw[if_pos hm,if_pos hm]
   have hle:=(metF_ends p ((st.xs++(itemsOf s x).take j)++[y])).len
   rw[hm]at hle
   simp only[List.length_append,List.length_take,List.length_singleton]at hle ⊢
   have hmn:min j (itemsOf s x).length=j:=Z1
   rw[hmn]at hle ⊢
   rw[List.map_cons,List.map_nil,mat_hit hp h x (Z1) hle]
  ·rw[if_neg hm,if_neg hm]
   rfl
theorem inv_step {s:Vc.Sp} {p l:List Int} {st:St} (hp:p≠[]) (h:Inv s p l st) (x:Int):Inv s p (l++[x]) (stp s p st x):=by
 refine⟨?_,?_,?_,?_⟩
 ·show st.xs++itemsOf s x=_
  rw[itL_app,itL_one,h.xs]
 ·show st.T+1=_
  rw[List.length_append,h.T]
  rfl
 ·intro a ha
  have ha':((st.xs++itemsOf s x).length:Int)+1≤a+(p.length:Int):=ha
  rw[List.length_append]at ha'
  rw[List.length_append,List.length_singleton]
  exact next_first h x (Z1)
 ·show st.told++_=_
  have h2:=hits_full hp h x _ (Nat.le_refl _)
  rw[List.take_length]at h2
  unfold matL
  rw[itL_app,itL_one,←h.xs,h2,h.told,h.xs]
  rfl
theorem inv_feed {s:Vc.Sp} {p:List Int} (hp:p≠[]):∀ (ids l:List Int) (st:St),Inv s p l st->Inv s p (l++ids) (feedS s p st ids)
 | [],l,st,h=>by rw[List.append_nil];exact h
 | x::ids,l,st,h=>by
  have:=inv_feed hp ids (l++[x]) (stp s p st x) (inv_step hp h x)
  rw[List.append_assoc]at this
  exact this
theorem inv_nil {s:Vc.Sp} {p:List Int} (hp:p≠[]):Inv s p [] ⟨[],0,[],[]⟩:=by
 have hpos:=List.length_pos_iff.2 hp
 refine⟨rfl,rfl,fun a _=>rfl,?_⟩
 unfold matL posL
 rw[show (itL s []).length+1-p.length=0 by simp[itL];omega]
 rfl
def bare (st:St):St:=⟨st.xs,st.T,st.L,[]⟩
theorem feed_bare (s:Vc.Sp) (p:List Int):∀ (ids:List Int) (st:St),(feedS s p st ids).told=st.told++(feedS s p (bare st) ids).told/\bare (feedS s p st ids)=bare (feedS s p (bare st) ids)
 | [],st=>⟨by show st.told=st.told++[];rw[List.append_nil],rfl⟩
 | x::ids,st=>by
  obtain⟨h1,h2⟩:=feed_bare s p ids (stp s p st x)
  obtain⟨h3,h4⟩:=feed_bare s p ids (stp s p (bare st) x)
  have e:bare (stp s p st x)=bare (stp s p (bare st) x):=rfl
  refine⟨?_,?_⟩
  ·show (feedS s p (stp s p st x) ids).told=st.told++(feedS s p (stp s p (bare st) x) ids).told
   rw[h1,h3,e]
   show (st.told++_)++_=st.told++(([]++_)++_)
   rw[List.nil_append,List.append_assoc]
   rfl
  ·show bare (feedS s p (stp s p st x) ids)=bare (feedS s p (stp s p (bare st) x) ids)
   rw[h2,h4,e]
end Go.Proofs.YtkffhgiiejbnaaaGreat.Sk
namespace Go.Proofs.YtkffhgiiejbnaaaGreat.Sk
open Go.Shelf Go.RowKit YtkffhgiiejbnaaaGreatW.PrintWords YtkffhgiiejbnaaaGreatW.PrintLast YtkffhgiiejbnaaaGreatW.PrintMore Rf Aid Mp Hp Tk Vc En
theorem mt_cells {w:World} {base n c:Nat} {ok:Nat->Prop} {A:Option Addr} {l:List S65} (h:Kd.R k65 65 w base ok (.slice A n c) l) {i:Nat} {x:S65} (hx:l[i]?=some x) :
  ∃ g,A=some ⟨g,0,none⟩/\w.cell? ⟨g,i * 4,none⟩=some (.int .i64 x.f0)/\w.cell? ⟨g,i * 4+1,none⟩=some (.int .i64 x.f1)/\w.cell? ⟨g,i * 4+2,none⟩=some (.int .i64 x.f2)/\w.cell? ⟨g,i * 4+3,none⟩=some (.bool x.f3):=by
 obtain⟨hl,_⟩:=List.getElem?_eq_some_iff.1 hx
 obtain⟨g,c',e',_⟩:=Kd.R_form h (Z1)
 injection e' with e1 e2 e3
 subst e1
 obtain⟨h1,h2,h3⟩:=(Kd.R_reads' h).2.2
 obtain⟨ad,e,hc⟩:=h3 (Z1)
 injection e with e
 subst e
 obtain⟨cs,q1,q2,q3⟩:=hc i x hx
 have q2':=k65_open q2
 subst q2'
 have r:∀ (j:Nat) (u:Value),([Value.int .i64 x.f0,.int .i64 x.f1,.int .i64 x.f2,.bool x.f3]:List Value)[j]?=some u->w.cell? ⟨g,i * 4+j,none⟩=some u:=fun j u hu=>by
  have r0:=q3 j u hu
  rw[show (⟨g,0,none⟩:Addr).add (i * k65.sz+j)=⟨g,i * 4+j,none⟩ by
   rw[show k65.sz=4 from rfl]
   unfold Addr.add
   split <;> simp_all]at r0
  exact r0
 exact⟨g,rfl,r 0 _ rfl,r 1 _ rfl,r 2 _ rfl,r 3 _ rfl⟩
theorem it_97:itemsOf Dc.s0 97=[97]:=Z15
theorem has_97:hasId Dc.s0 97=true:=Z15
theorem pat_aa:Mk.parseP [] ⟨#[97,97]⟩=[97,97]:=Z15
theorem told_aa:(feedS Dc.s0 [97,97] ⟨[],0,[],[]⟩ [97,97,97]).told=[⟨0,0,1,true⟩,⟨1,1,2,true⟩]:=by
 unfold feedS
 simp only[List.foldl_cons,List.foldl_nil,stp,it_97]
 rfl
theorem awake_any (w:World):Calls Tryz.prog 25 #[] w fun e w'=>e=.returned (.bool true)/\Below w.heap.size w w':=by
 have hn:=new_ok 0 0 0 0 (Dc.s0_at w) Dc.s0_ok
 rw[show spV none none none none 0 0 0 0 Dc.s0=.agg #[.bool false,.slice none 0 0,.slice none 0 0,.slice none 0 0,.slice none 0 0,.slice none 0 0] from rfl]at hn
 have HN:=As.mk hn
 clear hn
 have hz:∀ w,(zeroValue 95).run Tryz.prog w=.ok (.agg #[.bool false,.slice none 0 0,.slice none 0 0,.slice none 0 0,.slice none 0 0,.slice none 0 0]) w:=fun w=>Z15
 go_enter Tryz.func25,Tryz.ntmps25
 go_wp2_with (first
  | (go_at_call 50;refine HN.out.mono ?_;rintro e w1 ⟨v,rfl,hv,hle,hb⟩;have HV1:=As.mk hv;have HL:=As.mk hle;have HB1:=As.mk hb;clear hv hle hb HN)
  | (go_at_call 26;go_loud (have ht:=text_any HV1.out ⟨#[97,97]⟩ (Z31) (Z31);rw[pat_aa]at ht;refine ht.mono ?_;clear ht;rintro e w2 ⟨d,Ap,cp,g,rfl,hs,hd1,hd2,hb⟩;have HS2:=As.mk hs;have HV2:=As.mk (HV1.out.below hb);have HVD:=As.mk (Nat.lt_of_lt_of_le HV1.out.lt hd1);have HB2:=As.mk (bt_ HB1.out hb);clear hs hd1 hd2 hb HV1 HB1)))
 have hba:=below_alloc (Below.refl w2.heap.size w2) (.cells #[.int .i64 97,.int .i64 97,.int .i64 97] 3)
 have hr:Kd.R (Kd.int .i64) 3 (w2.alloc (.cells #[.int .i64 97,.int .i64 97,.int .i64 97] 3)) w2.heap.size (fun _=>True) (.slice (some ⟨w2.heap.size,0,none⟩) 3 3) [97,97,97]:=Kd.R_of_own (own_lit w2 w2.heap.size 3 .i64 [97,97,97] (Nat.le_refl _) (by simp)) (fun _ _=>trivial)
 have hf:=feed_sk (st:=⟨[],0,[],[]⟩) (N:=0) (HS2.out.below hba) (HV2.out.below hba) HVD.out (by simp) (by simp) ⟨by simp,by simp,by simp,by simp,fun x hx=>by cases hx⟩ (Z1) rfl (A:=some ⟨w2.heap.size,0,none⟩) (c:=3) (ids:=[97,97,97]) (fun W f=>(Kd.R_reads' (f.rw (Rw.of hr))).2.2) (by simp)
 rw[show ([97,97,97]:List Int).findIdx? (fun n=>!hasId Dc.s0 n)=none from List.findIdx?_eq_none_iff.2 (fun x hx=>by
  have:x=97:=by simpa using hx
  rw[this,has_97];rfl)]at hf
 simp only[told_aa]at hf
 have HF:=As.mk hf
 have HBA:=As.mk (below_alloc HB2.out (.cells #[.int .i64 97,.int .i64 97,.int .i64 97] 3))
 have HVZ:=As.mk (show w.heap.size≤v from HL.out)
 clear hf hr hba
 go_wp2_with (go_at_call 27;go_loud (refine HF.out.mono ?_;rintro e w3 ⟨u,lv,rfl,ho,hs,hfd,_⟩;obtain⟨A3,c3,rfl⟩:=Kd.R_slice ho;obtain⟨g3,e3,x0,x1,x2,x3⟩:=mt_cells ho (i:=0) rfl;subst e3;obtain⟨g4,e4,y0,y1,y2,y3⟩:=mt_cells ho (i:=1) rfl;injection e4 with e4;injection e4 with e4;subst e4;have HB3:=As.mk (HBA.out.trans (hfd.high (by have h1:=blk_lt HS2.out.blk;simp;omega) HVZ.out HVD.out));clear ho hs hfd))
 go_ret
 exact⟨rfl,HB3.out⟩
end Go.Proofs.YtkffhgiiejbnaaaGreat.Sk
namespace Go.Proofs.YtkffhgiiejbnaaaGreat.Sk
open Go.Shelf Go.RowKit YtkffhgiiejbnaaaGreatW.PrintWords YtkffhgiiejbnaaaGreatW.PrintLast YtkffhgiiejbnaaaGreatW.PrintMore Rf Aid Mp Hp Tk Vc En Rt
theorem row_from {w:World} {A:Option Addr} {c m:Nat} {xs:List Int} (h:Kd.C (Kd.int .i64) w A xs.length xs) (hc:xs.length≤c) (hm:m≤xs.length) :
  ∃ A',(∀ W:World,(Instr.slice 41 (.slice A xs.length c) (some (.int .i64 (m:Int))) none none).run Tryz.prog W=.ok (.slice A' (xs.drop m).length (c-m)) W)/\Kd.C (Kd.int .i64) w A' (xs.drop m).length (xs.drop m):=by
 refine⟨_,fun W=>?_,Kd.C_drop h hm hc⟩
 rw[slice_fr hm W,List.length_drop]
 simp[show (Kd.int .i64).sz=1 from rfl]
theorem row_to {w:World} {A:Option Addr} {c m:Nat} {xs:List Int} (h:Kd.C (Kd.int .i64) w A xs.length xs) (hc:xs.length≤c) (hm:m≤xs.length) :
  (∀ W:World,(Instr.slice 41 (.slice A xs.length c) none (some (.int .i64 (m:Int))) none).run Tryz.prog W=.ok (.slice A (xs.take m).length c) W)/\Kd.C (Kd.int .i64) w A (xs.take m).length (xs.take m):=by
 refine⟨fun W=>?_,Kd.C_take h hm⟩
 rw[run_slice_h W 41 _ xs.length c under_ints .i64 (m:Int) (Z1) (Z1),size_int,List.length_take,Nat.min_eq_left hm]
 simp only[Result.andThen,sliced,Int.toNat_natCast,Nat.zero_mul,Nat.sub_zero]
 congr 2
 by_cases e:c=0
 ·rw[if_pos e]
 ·rw[if_neg e]
  cases A with
  | none=>rfl
  | some a=>simp[Addr.add]
theorem row_mid {w:World} {B:Option Addr} {d:Nat} {b:List Int} {p q:Nat} (hr:Kd.C (Kd.int .i64) w B b.length b) (hc:b.length≤d) (h1:p≤q) (h2:q≤b.length) :
  ∃ B',(∀ W:World,(Instr.slice 41 (.slice B b.length d) (some (.int .i64 (p:Int))) (some (.int .i64 (q:Int))) none).run Tryz.prog W=.ok (.slice B' ((b.take q).drop p).length (d-p)) W)/\Kd.C (Kd.int .i64) w B' ((b.take q).drop p).length ((b.take q).drop p):=by
 refine⟨if d=p then B else B.map (·.add (p * 1)),fun W=>?_,?_⟩
 ·rw[run_slice_lh W 41 B b.length d under_ints .i64 .i64 (p:Int) (q:Int) (Z1) (Z1) (Z1),size_int]
  rw[List.length_drop,List.length_take,Nat.min_eq_left h2]
  simp[sliced,Result.andThen]
 ·exact Kd.C_mid (k:=Kd.int .i64) (xs:=b) hr h1 h2 hc
theorem ints_b (xs ys:List Int) (A B:Option Addr) (c d:Nat) (w:World) (hr0:Kd.C (Kd.int .i64) w A xs.length xs) (hc0:xs.length≤c) (hr1:Kd.C (Kd.int .i64) w B ys.length ys) (hc1:ys.length≤d) (hl:xs.length≤1000000) :
  Calls Tryz.prog 20 #[.slice A xs.length c,.slice B ys.length d] w fun e w'=>e=.returned (.bool (decide (xs=ys)))/\Below w.heap.size w w':=by
 refine(Hp.ints_any xs ys A B c d w hr0 hc0 hr1 hc1 (Z1)).mono ?_
 rintro e w' ⟨rfl,hb⟩
 exact⟨rfl,dr_below hb⟩
theorem ends_drop {p xs:List Int} {n:Nat} (hn:n≤p.length) (hx:n≤xs.length):Ends p xs n↔xs.drop (xs.length-n)=p.take n:=by
 constructor
 ·rintro⟨_,t,ht⟩
  have hl:=congrArg List.length ht
  rw[List.length_append,List.length_take]at hl
  rw[←ht,List.length_append,List.length_take,show t.length+min n p.length-n=t.length from Z1,List.drop_left]
 ·intro h
  refine⟨hn,?_⟩
  rw[←h]
  exact List.drop_suffix _ _
theorem lawPart_any {w:World} {A B:Option Addr} {c d:Nat} {p xs:List Int} (hpl:p.length≤64) (hxl:xs.length≤1000000) (ha:Kd.C (Kd.int .i64) w A p.length p) (hc:p.length≤c) (hb:Kd.C (Kd.int .i64) w B xs.length xs) (hd:xs.length≤d) (hp0:p≠[]) :
  Calls Tryz.prog 42 #[.slice A p.length c,.slice B xs.length d] w fun e w'=>e=.returned (.int .i64 ((partF p xs:Nat):Int))/\Below w.heap.size w w':=by
 have hpos:=List.length_pos_iff.2 hp0
 have HA:=As.mk ha
 have HBB:=As.mk hb
 have HC:=As.mk (And.intro hc (And.intro hd (And.intro hpl hxl)))
 have hw1:wrap64 ((p.length:Int)-1)=((p.length-1:Nat):Int):=(w64 (Z1) (Z1)).trans (Z1)
 have HPF:=As.mk (show metN p xs (p.length-1)=partF p xs from rfl)
 generalize partF p xs=R at *
 clear ha hb hc hd
 obtain⟨m0,hm0⟩:∃ m0,m0=p.length-1:=⟨_,rfl⟩
 rw[←hm0]at hw1 HPF
 have HM0:=As.mk hm0
 clear hm0 hpos
 go_enter Tryz.func42,Tryz.ntmps42
 go_wp2
 go_loopg [5] m0 (fun k v5 W=>∃ n:Nat,v5=.int .i64 (n:Int)/\n≤k/\As (n≤m0)/\As (metN p xs n=R)/\As (Below w.heap.size w W))
 case atStart=>exact⟨m0,by rw[show ((m0:Nat):Int)=(p.length:Int)-1 from by have h1:=HM0.out;have h2:=List.length_pos_iff.2 hp0;omega],Nat.le_refl _,⟨Nat.le_refl _⟩,HPF,⟨Below.refl _ _⟩⟩
 case round =>
  clear HPF
  obtain⟨n,rfl,hnk,HN,HPF,HW⟩:=hrel
  rename World=>V
  by_cases hn:n=0
  ·subst hn
   have hR:R=0:=HPF.out.symm
   subst hR
   go_wp2
   go_ret
   exact⟨rfl,HW.out⟩
  ·obtain⟨k1,rfl⟩:∃ k1,gk=k1+1:=⟨gk-1,Z1⟩
   have hnI:(0:Int)<(n:Int):=Z1
   have hnp:n≤p.length:=by have h1:=HN.out;have h2:=HM0.out;omega
   have hwn:wrap64 ((n:Int)-1)=((n-1:Nat):Int):=(w64 (Z1) (Z159)).trans (Z1)
   have hstep:metN p xs n=if Ends p xs n then n else metN p xs (n-1):=by
    obtain⟨j,rfl⟩:∃ j,n=j+1:=⟨n-1,Z1⟩
    rfl
   rw[HPF.out]at hstep
   by_cases hx:n≤xs.length
   ·have hxI:(n:Int)≤(xs.length:Int):=by omega
    have hwx:wrap64 ((xs.length:Int)-(n:Int))=((xs.length-n:Nat):Int):=(w64 (Z1) (Z159)).trans (Z1)
    obtain⟨B',hs1,hC1⟩:=row_from (m:=xs.length-n) (Kd.C_below HBB.out HW.out) HC.out.2.1 (Z1)
    obtain⟨hs2,hC2⟩:=row_to (m:=n) (Kd.C_below HA.out HW.out) HC.out.1 hnp
    have HI:=As.mk (fun(W:World) (hb:Below V.heap.size V W)=>ints_b (xs.drop (xs.length-n)) (p.take n) B' A (d-(xs.length-n)) c W (Kd.C_below hC1 hb) (by rw[List.length_drop];have:=HC.out;omega) (Kd.C_below hC2 hb) (by rw[List.length_take];have:=HC.out;omega) (by rw[List.length_drop];have:=HC.out;omega))
    have HE:=As.mk (ends_drop hnp hx)
    have HST:=As.mk hstep
    obtain⟨M,hM⟩:∃ M,M=xs.length-n:=⟨_,rfl⟩
    have HMM:=As.mk hM
    rw[←hM]at hwx hs1 HI HE
    clear hC1 hC2 hstep hM
    generalize hDD:xs.drop M=D at *
    generalize hEE:p.take n=E at *
    have HDE:=As.mk (And.intro hDD hEE)
    clear hDD hEE
    go_wp2
    refine start_ (n:=16) (S:=fun w'=>Below V.heap.size V w') (ds:=[]) #[false,false,false,false,false,false,false,false,false,false,false,false,false,false,false,false] (Z15) rfl rfl (below_drew1 (Below.refl _ _)) (fun hHeld=>?_)
    have HD5:=As.mk hHeld;clear hHeld;generalize V.drew=w5 at HD5 ⊢;have hHeld:=HD5.out
    refine pI 0 (some 13) (bs 16 1) ?_
    refine pI 1 (some 14) (bs 16 3) ?_
    refine pI 2 (some 15) (bs 16 7) ?_
    refine pI 3 (some 16) (bs 16 15) ?_
    refine pI 4 (some 17) (bs 16 31) ?_
    refine pI 5 (some 18) (bs 16 63) ?_
    refine pI 6 (some 19) (bs 16 127) ?_
    refine pI 7 (some 20) (bs 16 255) ?_
    refine pI 8 (some 21) (bs 16 511) ?_
    refine pI 9 (some 22) (bs 16 1023) ?_
    refine pI 10 (some 23) (bs 16 2047) ?_
    refine pI 11 (some 24) (bs 16 4095) ?_
    refine pI 12 (some 25) (bs 16 8191) ?_
    refine pI 13 (some 26) (bs 16 16383) ?_
    refine one_ (i:=14) (N:=some 27) (bs 16 32767) rfl rfl (Z15) (Z31) (fun K hK=>?_)
    refine goes_ Tryz.func20 (Z15) rfl #[.slice B' D.length (d-M),.slice A E.length c] (by rfl) rfl rfl (Z101) ?_
    refine(HI.out _ HD5.out).mono ?_
    rintro e w6 ⟨rfl,hb⟩
    refine⟨_,rfl,?_⟩
    have HD6:=As.mk (bt_ HD5.out hb)
    refine hK.out _ _ HD6.out (fun _=>?_)
    clear hK K hb
    refine nI ?_
    refine pI 15 (some 28) (bs 16 65535) ?_
    refine done_ (Z15) ?_
    have HW6:=As.mk (bt_ HW.out HD6.out)
    by_cases hq:D=E
    ·have hR:R=n:=by rw[HST.out,if_pos (HE.out.2 hq)]
     have hqd:decide (D=E)=true:=decide_eq_true hq
     rw[hqd]
     subst hR
     go_wp2
     go_ret
     exact⟨rfl,HW6.out⟩
    ·have hR:metN p xs (n-1)=R:=by rw[HST.out,if_neg (fun h=>hq (HE.out.1 h))]
     have hqd:decide (D=E)=false:=decide_eq_false hq
     have HR:=As.mk hR
     rw[hqd]
     clear hR hq
     go_wp2
     go_roundg k1
     case measure=>omega
     case rel=>exact⟨n-1,Z187,Z1,⟨by have:=HN.out;omega⟩,HR,HW6⟩
   ·have hxI:¬ (n:Int)≤(xs.length:Int):=by omega
    have hR:metN p xs (n-1)=R:=by rw[hstep,if_neg (fun h=>hx h.len)]
    have HR:=As.mk hR
    clear hR hstep
    go_wp2
    refine start_ (n:=16) (S:=fun w'=>Below V.heap.size V w') (ds:=[]) #[false,false,false,false,false,false,false,false,false,false,false,false,false,false,false,false] (Z15) rfl rfl (below_drew1 (Below.refl _ _)) (fun hHeld=>?_)
    have HD5:=As.mk hHeld;clear hHeld;generalize V.drew=w5 at HD5 ⊢;have hHeld:=HD5.out
    refine pI 0 (some 13) (bs 16 1) ?_
    refine pI 1 (some 14) (bs 16 3) ?_
    refine pI 2 (some 15) (bs 16 7) ?_
    refine pI 3 (some 16) (bs 16 15) ?_
    refine pI 4 (some 17) (bs 16 31) ?_
    refine pO 5 (some 18) (bs 16 63) ?_
    refine pO 6 (some 19) (bs 16 127) ?_
    refine pO 7 (some 20) (bs 16 255) ?_
    refine pO 8 (some 21) (bs 16 511) ?_
    refine pO 9 (some 22) (bs 16 1023) ?_
    refine pO 10 (some 23) (bs 16 2047) ?_
    refine pO 11 (some 24) (bs 16 4095) ?_
    refine pO 12 (some 25) (bs 16 8191) ?_
    refine pO 13 (some 26) (bs 16 16383) ?_
    refine pO 14 (some 27) (bs 16 32767) ?_
    refine pI 15 (some 28) (bs 16 65535) ?_
    refine done_ (Z15) ?_
    have HW6:=As.mk (bt_ HW.out HD5.out)
    go_wp2
    go_roundg k1
    case measure=>omega
    case rel=>exact⟨n-1,Z187,Z1,⟨by have:=HN.out;omega⟩,HR,HW6⟩
end Go.Proofs.YtkffhgiiejbnaaaGreat.Sk
namespace Go.Proofs.YtkffhgiiejbnaaaGreat.Sk
open Go.Shelf Go.RowKit YtkffhgiiejbnaaaGreatW.PrintWords YtkffhgiiejbnaaaGreatW.PrintLast YtkffhgiiejbnaaaGreatW.PrintMore Rf Aid Mp Hp Tk Vc En Rt
def outF (s:Vc.Sp) (p ids:List Int) (a:Nat):List S65:=((List.range a).filter (fun a=>decide (((itL s ids).drop a).take p.length=p))).map (matF s p ids)
theorem outF_next (s:Vc.Sp) (p ids:List Int) (a:Nat):outF s p ids (a+1)=outF s p ids a++if ((itL s ids).drop a).take p.length=p then [matF s p ids a] else []:=by
 unfold outF
 rw[List.range_succ,List.filter_append,List.map_append,List.filter_cons,List.filter_nil]
 by_cases h:((itL s ids).drop a).take p.length=p
 ·rw[if_pos h,if_pos (by simpa using h)];rfl
 ·rw[if_neg h,if_neg (by simpa using h)];rfl
theorem outF_len (s:Vc.Sp) (p ids:List Int) (a:Nat):(outF s p ids a).length≤a:=by
 unfold outF
 rw[List.length_map]
 have:=List.length_filter_le (fun a=>decide (((itL s ids).drop a).take p.length=p)) (List.range a)
 rw[List.length_range]at this
 exact this
theorem firstI_next (s:Vc.Sp) (l:List Int) (a i:Nat):firstI s l a (i+1)=if startS s l i≤a/\a<startS s l (i+1) then ((i:Int),decide (a=startS s l i)) else firstI s l a i:=rfl
theorem lastI_next (s:Vc.Sp) (l:List Int) (b i:Nat):lastI s l b (i+1)=if startS s l i≤b/\b<startS s l (i+1) then ((i:Int),decide (b+1=startS s l (i+1))) else lastI s l b i:=rfl
theorem start_mono (s:Vc.Sp) (l:List Int) (i:Nat):startS s l i≤(itL s l).length:=by
 unfold startS
 conv=>rhs;rw[←List.take_append_drop i l,itL_app,List.length_append]
 omega
theorem itL_len {s:Vc.Sp} (h:∀ id,(itemsOf s id).length≤64):∀ l:List Int,(itL s l).length≤64 * l.length
 | []=>Nat.le_refl _
 | x::l=>by
  have ih:=itL_len h l
  have h1:=h x
  show (itemsOf s x++itL s l).length≤_
  rw[List.length_append,List.length_cons]
  omega
theorem matches_any {w:World} {v:Nat} {A0 B0 A3 A4 A5:Option Addr} {c0 d0 c3 c4 c5:Nat} {s:Vc.Sp} (h:RefAt w v A0 B0 A3 A4 A5 c0 d0 c3 c4 c5 s) (hok:VOk s) {A B:Option Addr} {c d:Nat} {p ids:List Int} (hp:p≠[]) (hpl:p.length≤64) (ha:Kd.C (Kd.int .i64) w A p.length p) (hc:p.length≤c) (hb:Kd.C (Kd.int .i64) w B ids.length ids) (hd:ids.length≤d) (hil:ids.length≤1000) (hbad:badF s ids=none) :
  Calls Tryz.prog 38 #[vV A0 B0 A3 A4 A5 c0 d0 c3 c4 c5 (tabOf s).1 s,.slice A p.length c,.slice B ids.length d] w fun e w'=>∃ sv:Value,e=.returned sv/\Kd.R k65 65 w' w.heap.size (fun _=>True) sv (matL s p ids)/\Below w.heap.size w w':=by
 have hpos:=List.length_pos_iff.2 hp
 have hile:(itL s ids).length≤64000:=by
  have h1:=itL_len (s:=s) (fun id=>itemsOf_len hok id) ids
  omega
 have HF:=As.mk h
 have HA:=As.mk ha
 have HBB:=As.mk hb
 have HC:=As.mk (And.intro hc (And.intro hd (And.intro hpl hil)))
 have HIL:=As.mk hile
 have HPOS:=As.mk hpos
 have HIS:=As.mk (fun(W:World) (hw:Below w.heap.size w W)=>vitems_any (h.below hw) hok B d ids (Kd.C_below hb hw) hd (Z1) hbad)
 have HI1:=As.mk (fun(W:World) (hw:Below w.heap.size w W) (i:Nat) (id:Int) (hi:ids[i]?=some id) (B':Option Addr) (d':Nat) (hC:Kd.C (Kd.int .i64) W B' ([id]:List Int).length [id]) (hd':1≤d')=>vitems_any (h.below hw) hok B' d' [id] hC hd' (by simp) (by
  unfold badF at hbad ⊢
  have h1:=List.findIdx?_eq_none_iff.1 hbad id (List.mem_of_getElem? hi)
  rw[List.findIdx?_eq_none_iff]
  intro x hx
  rw[List.mem_singleton.1 hx]
  exact h1))
 clear h ha hb hc hd hbad hile hpl hil
 unfold vV at HIS HI1 ⊢
 generalize hX:itL s ids=xs at *
 have HX:=As.mk hX
 have HBX:=As.mk (below_alloc (Below.refl w.heap.size w) (.cells #[.slice A0 (bL (tabOf s).1).length c0,.slice B0 (mL (tabOf s).1).length d0,.slice A4 s.C.length c4,.slice A5 s.J.length c5,.slice A3 s.X.length c3] 38))
 have HM0:=As.mk (Go.MapKept.heap_alloc w (.cells #[.slice A0 (bL (tabOf s).1).length c0,.slice B0 (mL (tabOf s).1).length d0,.slice A4 s.C.length c4,.slice A5 s.J.length c5,.slice A3 s.X.length c3] 38)).1
 have m0:=Vc.cell_of (i:=0) HM0.out rfl
 have m1:=Vc.cell_of (i:=1) HM0.out rfl
 have m2:=Vc.cell_of (i:=2) HM0.out rfl
 have m3:=Vc.cell_of (i:=3) HM0.out rfl
 have m4:=Vc.cell_of (i:=4) HM0.out rfl
 clear hX hpos
 go_enter Tryz.func38,Tryz.ntmps38
 go_wp2_with (go_at_call 36;refine(HIS.out _ HBX.out).mono ?_;rintro e w1 ⟨v0,rfl,ho,hb⟩;obtain⟨Ax,cx,rfl⟩:=Kd.R_slice ho;have HXR:=As.mk (Kd.R_reads' ho);have HB1:=As.mk (bt_ HBX.out hb);have HM1V:=As.mk ((hb.block _ (blk_lt HM0.out)).trans HM0.out);clear ho hb m0 m1 m2 m3 m4 HIS)
 obtain⟨N,hN⟩:∃ N,N=xs.length+1-p.length:=⟨_,rfl⟩
 have HN:=As.mk hN
 clear hN
 go_loopg [8,9] (xs.length+1) (fun k v8 v9 W=>∃ a:Nat,v9=.int .i64 (a:Int)/\a≤N/\As (xs.length+1-a≤k)/\As (Kd.R k65 65 W w1.heap.size (fun _=>True) v8 (outF s p ids a))/\As (Below w1.heap.size w1 W))
 case atStart=>exact⟨0,rfl,Nat.zero_le _,⟨Z1⟩,⟨Kd.R_nil _ _ _ _ _⟩,⟨Below.refl _ _⟩⟩
 case round =>
  obtain⟨a,rfl,haN,HK,HO,HW⟩:=hrel
  rename World=>W
  obtain⟨am,ham⟩:∃ am,am=a+p.length:=⟨_,rfl⟩
  have HAM:=As.mk ham
  have hwm:wrap64 ((a:Int)+(p.length:Int))=(am:Int):=by have h1:=HN.out;have h2:=HC.out.2.2.1;have h3:=HIL.out;exact(w64 (Z1) (Z1)).trans (Z1)
  have HWM:=As.mk hwm
  clear hwm
  have hle:am≤xs.length↔a<N:=by have h1:=HN.out;have h3:=HPOS.out;omega
  clear ham
  by_cases hlt:am≤xs.length
  ·have hltI:(am:Int)≤(xs.length:Int):=by omega
   obtain⟨k1,rfl⟩:∃ k1,gk=k1+1:=⟨gk-1,by have:=HK.out;have:=HAM.out;omega⟩
   have haN2:=As.mk (hle.1 hlt)
   have HWA:=As.mk (show wrap64 ((a:Int)+1)=(a:Int)+1 from w64 (Z1) (by have h2:=HIL.out;have h3:=HAM.out;omega))
   obtain⟨B',hs1,hC1⟩:=row_mid (p:=a) (q:=am) (Kd.C_below HXR.out.2.2 HW.out) HXR.out.2.1 (by have:=HAM.out;omega) hlt
   have hin:=ints_b ((xs.take am).drop a) p B' A (cx-a) c W hC1 (by rw[List.length_drop,List.length_take];have:=HXR.out.2.1;have:=HAM.out;omega) (Kd.C_below HA.out (HB1.out.trans (HW.out.mono HB1.out.size))) HC.out.1 (by rw[List.length_drop,List.length_take];have:=HIL.out;omega)
   have HIN:=As.mk hin
   have hnx:=outF_next s p ids a
   rw[HX.out,show ((xs.drop a).take p.length)=(xs.take am).drop a by rw[List.drop_take,show am-a=p.length by have:=HAM.out;omega]]at hnx
   have HNX:=As.mk hnx
   clear hC1 hin hnx hlt hle
   generalize (xs.take am).drop a=D at *
   by_cases hq:D=p
   ·have hqd:decide (D=p)=true:=decide_eq_true hq
    have hnx2:=HNX.out
    rw[if_pos hq]at hnx2
    rw[hqd]at HIN
    have HN2:=As.mk hnx2
    clear hnx2 hq HNX hqd
    have hwm:=HWM.out
    go_wp2_with (go_at_call 20;refine HIN.out.mono ?_;rintro e w2 ⟨rfl,hb⟩;have HW2:=As.mk hb;have h2q:=(Go.MapKept.heap_alloc w2 (.cells #[.int .i64 (a:Int),.int .i64 0,.int .i64 0,.bool false] 65)).1;clear hb)
    clear hwm
    have HB3:=As.mk (below_alloc (Below.refl w2.heap.size w2) (.cells #[.int .i64 (a:Int),.int .i64 0,.int .i64 0,.bool false] 65))
    have HW3:=As.mk (bt_ HW2.out HB3.out)
    have HQL:=As.mk HW2.out.size
    generalize hw3:w2.alloc (.cells #[.int .i64 (a:Int),.int .i64 0,.int .i64 0,.bool false] 65 (0,0))=w3 at *
    obtain⟨q,hqq⟩:∃ q,q=w2.heap.size:=⟨_,rfl⟩
    rw[←hqq]at h2q HQL ⊢
    obtain⟨b,hb0⟩:∃ b,b=a+p.length-1:=⟨_,rfl⟩
    have HBQ:=As.mk hb0
    have HWB:=As.mk (show wrap64 ((am:Int)-1)=(b:Int) from by have h1:=HAM.out;have h2:=HPOS.out;have h3:=HIL.out;have h4:=HN.out;have h5:=haN2.out;exact(w64 (Z1) (Z1)).trans (Z1))
    have H3:=As.mk h2q
    have HT:=As.mk (show matF s p ids a=⟨(a:Int),(firstI s ids a ids.length).1,(lastI s ids b ids.length).1,(firstI s ids a ids.length).2 && (lastI s ids b ids.length).2⟩ by rw[hb0];rfl)
    clear hqq h2q hw3 HB3 HIN hs1 hb0
    go_loopg [11,12,13,14] ids.length (fun k v11 v12 v13 v14 V=>∃ i:Nat,v14=.int .i64 (i:Int)/\v13=.int .i64 (startS s ids i:Int)/\v12=.bool (lastI s ids b i).2/\v11=.bool (firstI s ids a i).2/\i≤ids.length/\As (ids.length-i≤k)/\As (Below W.heap.size W V)/\As (V.heap[q]?=some (.cells #[.int .i64 (a:Int),.int .i64 (firstI s ids a i).1,.int .i64 (lastI s ids b i).1,.bool false] 65 (0,0))))
    case atStart=>exact⟨0,rfl,by rw[start_zero];rfl,rfl,rfl,Nat.zero_le _,⟨Z1⟩,HW3,H3⟩
    case round =>
     clear H3 HW3
     obtain⟨i,rfl,rfl,rfl,rfl,hi,HK2,HV,HQ⟩:=hrel
     rename World=>V
     by_cases hlt:i<ids.length
     ·have hltI:(i:Int)<(ids.length:Int):=by omega
      obtain⟨k2,rfl⟩:∃ k2,gk=k2+1:=⟨gk-1,Z160⟩
      obtain⟨id,hid⟩:∃ id,ids[i]?=some id:=⟨_,List.getElem?_eq_getElem hlt⟩
      obtain⟨i1,hi1⟩:∃ i1,i1=i+1:=⟨_,rfl⟩
      have HWI:=As.mk (show wrap64 ((i:Int)+1)=(i1:Int) from (w64 (Z1) (Z159)).trans (Z1))
      have hWV:=HB1.out.trans ((HW.out.trans (HV.out.mono HW.out.size)).mono HB1.out.size)
      have HWV:=As.mk hWV
      obtain⟨B2,hs2,hC2⟩:=row_mid (p:=i) (q:=i+1) (Kd.C_below HBB.out hWV) HC.out.2.1 (Z1) (Z1)
      have hone:(ids.take (i+1)).drop i=[id]:=by
       rw[List.take_add_one,hid,List.drop_append_of_le_length (Z8),List.drop_of_length_le (Z8)]
       rfl
      rw[hone]at hs2 hC2
      have hdi:1≤d-i:=Z159
      have HI2:=As.mk (fun(W':World) (hb:Below V.heap.size V W')=>HI1.out W' (hWV.trans (hb.mono hWV.size)) i id hid B2 (d-i) (Kd.C_below hC2 hb) hdi)
      rw[show itL s [id]=itemsOf s id from itL_one s id]at HI2
      have hsn:=start_next (s:=s) hid
      have hm2:=start_mono s ids (i+1)
      rw[HX.out]at hm2
      have hf:=firstI_next s ids a i
      have hl:=lastI_next s ids b i
      rw[←hi1]at hs2
      have HI1E:=As.mk hi1
      clear hi1
      obtain⟨n0,hn0⟩:∃ n0,n0=startS s ids i:=⟨_,rfl⟩
      obtain⟨m1,hm1⟩:∃ m1,m1=startS s ids (i+1):=⟨_,rfl⟩
      rw[←hn0]at hsn hf hl
      rw[←hm1]at hsn hf hl hm2
      rw[←hn0]
      have HM1:=As.mk hm1
      have HWN:=As.mk (show wrap64 ((n0:Int)+((itemsOf s id).length:Int))=(m1:Int) from by have h1:=HIL.out;exact(w64 (Z1) (Z1)).trans (Z1))
      have HMS:=As.mk hm2
      generalize itemsOf s id=its at *
      generalize hE:[id]=E at *
      have hEL:E.length=1:=by rw[←hE];rfl
      have HV1:=As.mk (HW.out.trans (HV.out.mono HW.out.size))
      have HMV:=As.mk ((HV1.out.block _ (blk_lt HM1V.out)).trans HM1V.out)
      generalize hFP:firstI s ids a i=FP at *
      generalize hLP:lastI s ids b i=LP at *
      obtain⟨F,fb⟩:=FP
      obtain⟨L,lb⟩:=LP
      have hdb:∀ x y:Nat,decide (x=y)=((x:Int)==(y:Int)):=fun x y=>by rw[Bool.eq_iff_iff,decide_eq_true_iff,beq_iff_eq];omega
      rw[hdb]at hf hl
      rw[show ((b+1:Nat):Int)=(am:Int) by have h1:=HAM.out;have h2:=HBQ.out;have h3:=HPOS.out;omega]at hl
      clear hm1 hn0 hm2 hsn hC2 hone hid hE hWV hFP hLP hdb hEL
      dsimp only at HQ ⊢
      have hwi:=HWI.out
      go_wp2
      refine start_ (n:=9) (S:=fun w'=>Below V.heap.size V w') (ds:=[]) #[false,false,false,false,false,false,false,false,false] (Z15) rfl rfl (below_drew1 (Below.refl _ _)) (fun hHeld=>?_)
      have HD5:=As.mk hHeld;clear hHeld;generalize V.drew=w5 at HD5 ⊢;have hHeld:=HD5.out
      refine pI 1 (some 47) (bs 9 2) ?_
      refine pI 2 (some 48) (bs 9 6) ?_
      refine pI 3 (some 49) (bs 9 14) ?_
      refine pI 4 (some 50) (bs 9 30) ?_
      refine pI 5 (some 51) (bs 9 62) ?_
      refine tI 0 (some 46) (bs 9 63) rfl (by intro w' hS';have s0:=hS';have hmv:=(hS'.block _ (blk_lt HMV.out)).trans HMV.out;have m0:=Vc.cell_of (i:=0) hmv rfl;have m1c:=Vc.cell_of (i:=1) hmv rfl;have m2:=Vc.cell_of (i:=2) hmv rfl;have m3:=Vc.cell_of (i:=3) hmv rfl;have m4:=Vc.cell_of (i:=4) hmv rfl;go_simp;with_reducible rfl) hHeld ?_
      refine one_ (i:=6) (N:=some 52) (bs 9 127) rfl rfl (Z15) (Z31) (fun K hK=>?_)
      refine goes_ Tryz.func36 (Z15) rfl #[.agg #[.slice A0 (bL (tabOf s).1).length c0,.slice B0 (mL (tabOf s).1).length d0,.slice A4 s.C.length c4,.slice A5 s.J.length c5,.slice A3 s.X.length c3],.slice B2 E.length (d-i)] (by rfl) rfl rfl (Z101) ?_
      refine(HI2.out _ HD5.out).mono ?_
      rintro e w4 ⟨v0,rfl,ho,hb⟩
      obtain⟨A4',c4',rfl⟩:=Kd.R_slice ho
      refine⟨_,rfl,?_⟩
      have HD4:=As.mk (bt_ HD5.out hb)
      refine hK.out _ _ HD4.out (fun _=>?_)
      clear hK K hb ho
      refine nI ?_
      refine pI 7 (some 53) (bs 9 255) ?_
      refine pI 8 (some 15) (bs 9 511) ?_
      refine done_ (Z15) ?_
      clear hwi
      have HQ4:=As.mk ((HD4.out.block _ (blk_lt HQ.out)).trans HQ.out)
      have HB4:=As.mk (HV.out.trans (HD4.out.mono HV.out.size))
      clear HI2 HI1 HBB HQ HV HD4 HD5 HMV HV1 HWV hs2 HF HIL
      have h1:¬ n0≤a\/(n0≤a/\¬ a<m1)\/(n0≤a/\a<m1):=Z1
      have h2:¬ n0≤b\/(n0≤b/\¬ b<m1)\/(n0≤b/\b<m1):=Z1
      rcases h1 with q1|⟨q1,q2⟩|⟨q1,q2⟩
      ·rw[if_neg (fun k=>q1 k.1)]at hf
       have q1I:¬ (n0:Int)≤(a:Int):=Z1
       have HFF:=As.mk hf
       clear hf
       rcases h2 with r1|⟨r1,r2⟩|⟨r1,r2⟩
       ·rw[if_neg (fun k=>r1 k.1)]at hl
        have r1I:¬ (n0:Int)≤(b:Int):=Z1
        have HLL:=As.mk hl
        clear hl
        have hq4:=HQ4.out;have HQ5:=As.mk hq4;have HB5:=As.mk HB4.out;clear hq4;have hwi:=HWI.out;have hwm:=HWM.out;have hwb:=HWB.out;have hwn:=HWN.out;go_wp2
        go_roundg k2
        case measure=>omega
        case rel=>exact⟨i+1,Z161,Z162,Z163,Z164,Z1,⟨Z160⟩,HB5,⟨Z165⟩⟩
       ·rw[if_neg (fun k=>r2 k.2)]at hl
        have r1I:(n0:Int)≤(b:Int):=Z1
        have r2I:¬ (b:Int)<(m1:Int):=Z1
        have HLL:=As.mk hl
        clear hl
        have hq4:=HQ4.out;have HQ5:=As.mk hq4;have HB5:=As.mk HB4.out;clear hq4;have hwi:=HWI.out;have hwm:=HWM.out;have hwb:=HWB.out;have hwn:=HWN.out;go_wp2
        go_roundg k2
        case measure=>omega
        case rel=>exact⟨i+1,Z161,Z162,Z163,Z164,Z1,⟨Z160⟩,HB5,⟨Z165⟩⟩
       ·rw[if_pos ⟨r1,r2⟩]at hl
        have r1I:(n0:Int)≤(b:Int):=Z1
        have r2I:(b:Int)<(m1:Int):=Z1
        have HLL:=As.mk hl
        clear hl
        have hq4:=HQ4.out;have z2:=frozen_of hq4 2;have c2:=Vc.cell_of (i:=2) hq4 rfl;have hq5:=blk_put hq4 2 (.int .i64 (i:Int)) rfl;have HQ5:=As.mk hq5;have HB5:=As.mk (HB4.out.setCell (p:=⟨q,2,none⟩) HQL.out (.int .i64 (i:Int)));clear hq4 hq5;have hwi:=HWI.out;have hwm:=HWM.out;have hwb:=HWB.out;have hwn:=HWN.out;go_wp2
        go_roundg k2
        case measure=>omega
        case rel=>exact⟨i+1,Z161,Z162,Z163,Z164,Z1,⟨Z160⟩,HB5,⟨Z165⟩⟩
      ·rw[if_neg (fun k=>q2 k.2)]at hf
       have q1I:(n0:Int)≤(a:Int):=Z1
       have q2I:¬ (a:Int)<(m1:Int):=Z1
       have HFF:=As.mk hf
       clear hf
       rcases h2 with r1|⟨r1,r2⟩|⟨r1,r2⟩
       ·rw[if_neg (fun k=>r1 k.1)]at hl
        have r1I:¬ (n0:Int)≤(b:Int):=Z1
        have HLL:=As.mk hl
        clear hl
        have hq4:=HQ4.out;have HQ5:=As.mk hq4;have HB5:=As.mk HB4.out;clear hq4;have hwi:=HWI.out;have hwm:=HWM.out;have hwb:=HWB.out;have hwn:=HWN.out;go_wp2
        go_roundg k2
        case measure=>omega
        case rel=>exact⟨i+1,Z161,Z162,Z163,Z164,Z1,⟨Z160⟩,HB5,⟨Z165⟩⟩
       ·rw[if_neg (fun k=>r2 k.2)]at hl
        have r1I:(n0:Int)≤(b:Int):=Z1
        have r2I:¬ (b:Int)<(m1:Int):=Z1
        have HLL:=As.mk hl
        clear hl
        have hq4:=HQ4.out;have HQ5:=As.mk hq4;have HB5:=As.mk HB4.out;clear hq4;have hwi:=HWI.out;have hwm:=HWM.out;have hwb:=HWB.out;have hwn:=HWN.out;go_wp2
        go_roundg k2
        case measure=>omega
        case rel=>exact⟨i+1,Z161,Z162,Z163,Z164,Z1,⟨Z160⟩,HB5,⟨Z165⟩⟩
       ·rw[if_pos ⟨r1,r2⟩]at hl
        have r1I:(n0:Int)≤(b:Int):=Z1
        have r2I:(b:Int)<(m1:Int):=Z1
        have HLL:=As.mk hl
        clear hl
        have hq4:=HQ4.out;have z2:=frozen_of hq4 2;have c2:=Vc.cell_of (i:=2) hq4 rfl;have hq5:=blk_put hq4 2 (.int .i64 (i:Int)) rfl;have HQ5:=As.mk hq5;have HB5:=As.mk (HB4.out.setCell (p:=⟨q,2,none⟩) HQL.out (.int .i64 (i:Int)));clear hq4 hq5;have hwi:=HWI.out;have hwm:=HWM.out;have hwb:=HWB.out;have hwn:=HWN.out;go_wp2
        go_roundg k2
        case measure=>omega
        case rel=>exact⟨i+1,Z161,Z162,Z163,Z164,Z1,⟨Z160⟩,HB5,⟨Z165⟩⟩
      ·rw[if_pos ⟨q1,q2⟩]at hf
       have q1I:(n0:Int)≤(a:Int):=Z1
       have q2I:(a:Int)<(m1:Int):=Z1
       have HFF:=As.mk hf
       clear hf
       rcases h2 with r1|⟨r1,r2⟩|⟨r1,r2⟩
       ·rw[if_neg (fun k=>r1 k.1)]at hl
        have r1I:¬ (n0:Int)≤(b:Int):=Z1
        have HLL:=As.mk hl
        clear hl
        have hq4:=HQ4.out;have z1:=frozen_of hq4 1;have c1:=Vc.cell_of (i:=1) hq4 rfl;have hq5:=blk_put hq4 1 (.int .i64 (i:Int)) rfl;have HQ5:=As.mk hq5;have HB5:=As.mk (HB4.out.setCell (p:=⟨q,1,none⟩) HQL.out (.int .i64 (i:Int)));clear hq4 hq5;have hwi:=HWI.out;have hwm:=HWM.out;have hwb:=HWB.out;have hwn:=HWN.out;go_wp2
        go_roundg k2
        case measure=>omega
        case rel=>exact⟨i+1,Z161,Z162,Z163,Z164,Z1,⟨Z160⟩,HB5,⟨Z165⟩⟩
       ·rw[if_neg (fun k=>r2 k.2)]at hl
        have r1I:(n0:Int)≤(b:Int):=Z1
        have r2I:¬ (b:Int)<(m1:Int):=Z1
        have HLL:=As.mk hl
        clear hl
        have hq4:=HQ4.out;have z1:=frozen_of hq4 1;have c1:=Vc.cell_of (i:=1) hq4 rfl;have hq5:=blk_put hq4 1 (.int .i64 (i:Int)) rfl;have HQ5:=As.mk hq5;have HB5:=As.mk (HB4.out.setCell (p:=⟨q,1,none⟩) HQL.out (.int .i64 (i:Int)));clear hq4 hq5;have hwi:=HWI.out;have hwm:=HWM.out;have hwb:=HWB.out;have hwn:=HWN.out;go_wp2
        go_roundg k2
        case measure=>omega
        case rel=>exact⟨i+1,Z161,Z162,Z163,Z164,Z1,⟨Z160⟩,HB5,⟨Z165⟩⟩
       ·rw[if_pos ⟨r1,r2⟩]at hl
        have r1I:(n0:Int)≤(b:Int):=Z1
        have r2I:(b:Int)<(m1:Int):=Z1
        have HLL:=As.mk hl
        clear hl
        have hq4:=HQ4.out;have z1:=frozen_of hq4 1;have c1:=Vc.cell_of (i:=1) hq4 rfl;have hq5:=blk_put hq4 1 (.int .i64 (i:Int)) rfl;have z2:=frozen_of hq5 2;have c2:=Vc.cell_of (i:=2) hq5 rfl;have hq6:=blk_put hq5 2 (.int .i64 (i:Int)) rfl;have HQ5:=As.mk hq6;have HB5:=As.mk ((HB4.out.setCell (p:=⟨q,1,none⟩) HQL.out (.int .i64 (i:Int))).setCell (p:=⟨q,2,none⟩) HQL.out (.int .i64 (i:Int)));clear hq4 hq5 hq6;have hwi:=HWI.out;have hwm:=HWM.out;have hwb:=HWB.out;have hwn:=HWN.out;go_wp2
        go_roundg k2
        case measure=>omega
        case rel=>exact⟨i+1,Z161,Z162,Z163,Z164,Z1,⟨Z160⟩,HB5,⟨Z165⟩⟩
     ·have hltI:¬ (i:Int)<(ids.length:Int):=by omega
      obtain rfl:i=ids.length:=Z1
      generalize hFP:firstI s ids a ids.length=FP at *
      generalize hLP:lastI s ids b ids.length=LP at *
      obtain⟨F,fb⟩:=FP
      obtain⟨L,lb⟩:=LP
      dsimp only at HQ HT ⊢
      have hqV:=HQ.out
      have c1:=Vc.cell_of (i:=0) hqV rfl
      have z3:=frozen_of hqV 3
      have c3:=Vc.cell_of (i:=3) hqV rfl
      have HBV:=As.mk (HW.out.trans (HV.out.mono HW.out.size))
      clear hFP hLP
      cases fb with
      | true =>
       have hq5:=blk_put hqV 3 (.bool lb) rfl
       have HO5:=As.mk (Kd.R_below HO.out (HV.out.setCell (p:=⟨q,3,none⟩) HQL.out (.bool lb)))
       have HB5:=As.mk (HBV.out.setCell (p:=⟨q,3,none⟩) (Nat.le_trans HW.out.size HQL.out) (.bool lb))
       have e0:=Vc.cell_of (i:=0) hq5 rfl
       have e1:=Vc.cell_of (i:=1) hq5 rfl
       have e2:=Vc.cell_of (i:=2) hq5 rfl
       have e3:=Vc.cell_of (i:=3) hq5 rfl
       have HT2:=As.mk (show matF s p ids a=⟨(a:Int),F,L,lb⟩ by rw[HT.out,Bool.true_and])
       clear hqV hq5 HT HBV HO HV HQ
       go_wp2_with ((with_reducible refine gate_builtin (b:=.append) (xs:=#[.tmp 105,.tmp 107]) rfl ?_);at_builtin;go_loud (refine Kd.R_append k65 (w0:=w1) (W:=V.setCell ⟨q,3,none⟩ (.bool lb)) w1.heap.size rfl (.tmp 105) (.tmp 107) 60 65 (.agg #[.int .i64 0,.int .i64 0,.int .i64 0,.bool false]) 32 rfl Tryz.underlying60 info_mt rfl (Z31) (Z1) _ (outF s p ids a) ⟨(a:Int),F,L,lb⟩ [.int .i64 (a:Int),.int .i64 F,.int .i64 L,.bool lb] (fun _=>True) (fun _=>False) (by rfl) (by simp[Act.eval,go_sem,set_size]) (k65_mkM _ _ _ ⟨(a:Int),F,L,lb⟩) (fun _ hk=>hk.elim) (fun _ _=>trivial) HO5.out HB5.out HB5.out.size (Z166) ?_;intro u6 w6 ho hb hg hat;have HO6:=As.mk ho;have HB6:=As.mk hb;clear ho hb hg hat))
       have hwa:=HWA.out
       go_wp2
       go_roundg k1
       case measure=>omega
       case rel=>exact⟨a+1,Z67,haN2.out,⟨Z65⟩,⟨by rw[HN2.out,HT2.out];exact HO6.out⟩,HB6⟩
      | false =>
       have hq5:=blk_put hqV 3 (.bool false) rfl
       have HO5:=As.mk (Kd.R_below HO.out (HV.out.setCell (p:=⟨q,3,none⟩) HQL.out (.bool false)))
       have HB5:=As.mk (HBV.out.setCell (p:=⟨q,3,none⟩) (Nat.le_trans HW.out.size HQL.out) (.bool false))
       have e0:=Vc.cell_of (i:=0) hq5 rfl
       have e1:=Vc.cell_of (i:=1) hq5 rfl
       have e2:=Vc.cell_of (i:=2) hq5 rfl
       have e3:=Vc.cell_of (i:=3) hq5 rfl
       have HT2:=As.mk (show matF s p ids a=⟨(a:Int),F,L,false⟩ by rw[HT.out,Bool.false_and])
       clear hqV hq5 HT HBV HO HV HQ
       go_wp2_with ((with_reducible refine gate_builtin (b:=.append) (xs:=#[.tmp 105,.tmp 107]) rfl ?_);at_builtin;go_loud (refine Kd.R_append k65 (w0:=w1) (W:=V.setCell ⟨q,3,none⟩ (.bool false)) w1.heap.size rfl (.tmp 105) (.tmp 107) 60 65 (.agg #[.int .i64 0,.int .i64 0,.int .i64 0,.bool false]) 32 rfl Tryz.underlying60 info_mt rfl (Z31) (Z1) _ (outF s p ids a) ⟨(a:Int),F,L,false⟩ [.int .i64 (a:Int),.int .i64 F,.int .i64 L,.bool false] (fun _=>True) (fun _=>False) (by rfl) (by simp[Act.eval,go_sem,set_size]) (k65_mkM _ _ _ ⟨(a:Int),F,L,false⟩) (fun _ hk=>hk.elim) (fun _ _=>trivial) HO5.out HB5.out HB5.out.size (Z166) ?_;intro u6 w6 ho hb hg hat;have HO6:=As.mk ho;have HB6:=As.mk hb;clear ho hb hg hat))
       have hwa:=HWA.out
       go_wp2
       go_roundg k1
       case measure=>omega
       case rel=>exact⟨a+1,Z67,haN2.out,⟨Z65⟩,⟨by rw[HN2.out,HT2.out];exact HO6.out⟩,HB6⟩
   ·have hqd:decide (D=p)=false:=decide_eq_false hq
    have hnx2:=HNX.out
    rw[if_neg hq,List.append_nil]at hnx2
    rw[hqd]at HIN
    have HN2:=As.mk hnx2
    clear hnx2 hq HNX hqd
    have hwm:=HWM.out
    have hwa:=HWA.out
    go_wp2_with (go_at_call 20;refine HIN.out.mono ?_;rintro e w2 ⟨rfl,hb⟩;have HO2:=As.mk (Kd.R_below HO.out hb);have HW2:=As.mk (bt_ HW.out hb);clear hb HO HW)
    go_roundg k1
    case measure=>omega
    case rel=>exact⟨a+1,Z67,haN2.out,⟨Z65⟩,⟨by rw[HN2.out];exact HO2.out⟩,HW2⟩
  ·have hltI:¬ (am:Int)≤(xs.length:Int):=by omega
   have haq:a=N:=Z1
   have HQ:=As.mk (show outF s p ids a=matL s p ids by
    unfold outF matL posL
    rw[haq,HX.out,HN.out])
   clear hle haq
   have hwm:=HWM.out
   go_wp2
   go_ret
   exact⟨_,rfl,by rw[←HQ.out];exact Kd.R_lower HO.out HB1.out.size,HB1.out.trans (HW.out.mono HB1.out.size)⟩
end Go.Proofs.YtkffhgiiejbnaaaGreat.Sk
namespace Go.Proofs.YtkffhgiiejbnaaaGreat.Rt
open Go.RowKit YtkffhgiiejbnaaaGreatW.PrintWords YtkffhgiiejbnaaaGreatW.PrintLast YtkffhgiiejbnaaaGreatW.PrintMore Rf Aid Mp Hp Tk Vc Bn En Sk
theorem bare_ok {st:Sk.St} {n:Nat} (h:StOk st n):StOk (bare st) n:=⟨h.xs,h.T,h.L,by simp[bare],h.at_⟩
theorem feed_told {s:Vc.Sp} {p took:List Int} {sf:Sk.St} (hp:p≠[]) (h:Inv s p took sf) (ids:List Int) :
  Inv s p (took++ids) (feedS s p sf ids)/\matL s p (took++ids)=matL s p took++(feedS s p (bare sf) ids).told/\(feedS s p (bare sf) ids).xs=itL s (took++ids)/\(feedS s p (bare sf) ids).T=(took++ids).length/\(feedS s p (bare sf) ids).L=(feedS s p sf ids).L:=by
 have h1:=inv_feed hp ids took sf h
 obtain⟨h2,h3⟩:=feed_bare s p ids sf
 have e1:(feedS s p (bare sf) ids).xs=(feedS s p sf ids).xs:=(congrArg (fun st:Sk.St=>st.xs) h3).symm
 have e2:(feedS s p (bare sf) ids).T=(feedS s p sf ids).T:=(congrArg (fun st:Sk.St=>st.T) h3).symm
 have e3:(feedS s p (bare sf) ids).L=(feedS s p sf ids).L:=(congrArg (fun st:Sk.St=>st.L) h3).symm
 exact⟨h1,by rw[←h1.told,h2,h.told],by rw[e1,h1.xs],by rw[e2,h1.T],e3⟩
theorem badF_app {s:Vc.Sp} {a b:List Int} (ha:badF s a=none) (hb:badF s b=none):badF s (a++b)=none:=by
 unfold badF at *
 rw[List.findIdx?_append,ha,hb]
 rfl
theorem part_nil (p:List Int):partF p []=0:=by
 have h:=(metN_ends p [] (p.length-1)).len
 unfold partF
 simp at h
 exact h
theorem mt_neq (x:S65) (W:World):(binOp BinOp.neq 65 (.agg #[.int .i64 x.f0,.int .i64 x.f1,.int .i64 x.f2,.bool x.f3]) (.agg #[.int .i64 x.f0,.int .i64 x.f1,.int .i64 x.f2,.bool x.f3])).run Tryz.prog W=.ok (.bool false) W:=by
 have hS:Tryz.prog.underlying 65=some (.struct (Tryz.prog.fieldsOf 65)):=Z15
 have hp:Tryz.prog.stoodInHeld 65=false:=Z15
 have u3:=Tryz.underlying3
 have a3:=Tryz.isAgg3
 have z3:=Tryz.sizeOf3
 have u4:=Tryz.underlying4
 have a4:=Tryz.isAgg4
 have z4:=Tryz.sizeOf4
 have h:(Op.equal 65 (.agg #[.int .i64 x.f0,.int .i64 x.f1,.int .i64 x.f2,.bool x.f3]) (.agg #[.int .i64 x.f0,.int .i64 x.f1,.int .i64 x.f2,.bool x.f3])).run Tryz.prog W=.ok true W:=by
  unfold Op.equal
  rw[show Op.maxDepth=9999+1 from rfl,run_equalIn_agg W 9999 65 _ _ hS hp]
  simp only[Program.fieldsOf,Tryz.underlying65]
  go_simp
 simp[binOp,h,Result.andThen]
theorem sf_early {A0 A1 A2 A3:Option Addr} {c0 c1 c2 c3:Nat} {L:List Int} {C:List S165} {J:List S108} {X:List S93} {w:World} (h:CaseAt w A0 A1 A2 A3 c0 c1 c2 c3 L C J X) (A:Option Addr) (c:Nat) (p:List Int) (hr:Kd.C (Kd.int .i64) w A p.length p) (hc:p.length≤c) (B:Option Addr) (d:Nat) (l:List (List Int)) (hr2:Kd.C (Kd.slice 3 (Kd.int .i64)) w B l.length l) {g:Int} (hG:∀ W:World,Below w.heap.size w W->Calls Tryz.prog 13 #[caseV A0 A1 A2 A3 c0 c1 c2 c3 L C J X] W fun e w'=>e=.returned (.int .i64 g)/\Below W.heap.size W w') (he:g=1\/(g=0/\(10:Int)<(l.length:Int))) :
  Calls Tryz.prog 9 #[caseV A0 A1 A2 A3 c0 c1 c2 c3 L C J X,.slice A p.length c,.slice B l.length d] w fun e w'=>e=.returned (.bool true)/\Below w.heap.size w w':=by
 have HG:=As.mk hG
 have HC:=As.mk h
 have HP:=As.mk hr
 have HL:=As.mk hr2
 have HCP:=As.mk hc
 clear hG h hr hr2 hc
 have HB0:=As.mk (below_alloc (Below.refl w.heap.size w) (.cells #[.slice A0 L.length c0,.slice A1 C.length c1,.slice A2 J.length c2,.slice A3 X.length c3] 27))
 have HK0:=As.mk (Go.MapKept.heap_alloc w (.cells #[.slice A0 L.length c0,.slice A1 C.length c1,.slice A2 J.length c2,.slice A3 X.length c3] 27)).1
 unfold caseV at HG ⊢
 rcases he with rfl|⟨rfl,h1⟩
 all_goals
  go_enter Tryz.func9,Tryz.ntmps9
  go_wp2_with (first|(go_at_call 13;refine(HG.out _ HB0.out).mono ?_;rintro e w1 ⟨rfl,hb⟩;have HB1:=As.mk (bt_ HB0.out hb);have HK1:=As.mk ((hb.block _ (blk_lt HK0.out)).trans HK0.out);clear hb)|(go_at_call 25;refine(Sk.awake_any _).mono ?_;rintro e w2 ⟨rfl,hb⟩;have HB2:=As.mk (bt_ HB1.out hb);clear hb))
  go_ret
  exact⟨rfl,HB2.out⟩
theorem sf_empty {A0 A1 A2 A3:Option Addr} {c0 c1 c2 c3:Nat} {L:List Int} {C:List S165} {J:List S108} {X:List S93} {w:World} (h:CaseAt w A0 A1 A2 A3 c0 c1 c2 c3 L C J X) (A:Option Addr) (c:Nat) (p:List Int) (hr:Kd.C (Kd.int .i64) w A p.length p) (hc:p.length≤c) (B:Option Addr) (d:Nat) (l:List (List Int)) (hr2:Kd.C (Kd.slice 3 (Kd.int .i64)) w B l.length l) {g:Int} (hG:∀ W:World,Below w.heap.size w W->Calls Tryz.prog 13 #[caseV A0 A1 A2 A3 c0 c1 c2 c3 L C J X] W fun e w'=>e=.returned (.int .i64 g)/\Below W.heap.size W w') (h0:g=0) (hl:(l.length:Int)≤10) (hp:p=[]) :
  Calls Tryz.prog 9 #[caseV A0 A1 A2 A3 c0 c1 c2 c3 L C J X,.slice A p.length c,.slice B l.length d] w fun e w'=>e=.returned (.bool true)/\Below w.heap.size w w':=by
 have HG:=As.mk hG
 have HC:=As.mk h
 have HP:=As.mk hr
 have HL:=As.mk hr2
 have HCP:=As.mk hc
 clear hG h hr hr2 hc
 have HB0:=As.mk (below_alloc (Below.refl w.heap.size w) (.cells #[.slice A0 L.length c0,.slice A1 C.length c1,.slice A2 J.length c2,.slice A3 X.length c3] 27))
 have HK0:=As.mk (Go.MapKept.heap_alloc w (.cells #[.slice A0 L.length c0,.slice A1 C.length c1,.slice A2 J.length c2,.slice A3 X.length c3] 27)).1
 unfold caseV at HG ⊢
 have HO:=As.mk (fun(W:World) (hb:Below w.heap.size w W)=>of_any (HC.out.below hb))
 have HOK:=As.mk (some_ok L C J X)
 unfold caseV at HO
 generalize someS L C J X=sp at HO HOK
 unfold vV at HO
 subst h0
 subst hp
 show Calls Tryz.prog 9 #[.agg #[.slice A0 L.length c0,.slice A1 C.length c1,.slice A2 J.length c2,.slice A3 X.length c3],.slice A 0 c,.slice B l.length d] _ _
 go_enter Tryz.func9,Tryz.ntmps9
 go_wp2_with (first|(go_at_call 13;refine(HG.out _ HB0.out).mono ?_;rintro e w1 ⟨rfl,hb⟩;have HB1:=As.mk (bt_ HB0.out hb);have HK1:=As.mk ((hb.block _ (blk_lt HK0.out)).trans HK0.out);clear hb)|(go_at_call 25;refine(Sk.awake_any _).mono ?_;rintro e w2 ⟨rfl,hb⟩;have HB2:=As.mk (bt_ HB1.out hb);have HK2:=(hb.block _ (blk_lt HK1.out)).trans HK1.out;have d0:=cell_of (i:=0) HK2 rfl;have d1:=cell_of (i:=1) HK2 rfl;have d2:=cell_of (i:=2) HK2 rfl;have d3:=cell_of (i:=3) HK2 rfl;clear hb HK2)|(go_at_call 15;refine(HO.out _ HB2.out).mono ?_;rintro e w3 ⟨v,B0,D0,B3,B4,B5,e0,f0,e3,e4,e5,rfl,hv,href,hle,hb⟩;have HB3:=As.mk (bt_ HB2.out hb);have HLE:=As.mk (Nat.le_trans HB2.out.size hle);have hba:=below_alloc (Below.refl w3.heap.size w3) (.cells #[.slice B0 (bL (tabOf sp).1).length e0,.slice D0 (mL (tabOf sp).1).length f0,.slice B4 sp.C.length e4,.slice B5 sp.J.length e5,.slice B3 sp.X.length e3] 38);have HB4:=As.mk (below_alloc HB3.out (.cells #[.slice B0 (bL (tabOf sp).1).length e0,.slice D0 (mL (tabOf sp).1).length f0,.slice B4 sp.C.length e4,.slice B5 sp.J.length e5,.slice B3 sp.X.length e3] 38));have HV4:=As.mk (hv.below hba);have HV3L:=As.mk hv.lt;have HF4:=As.mk (href.below hba);have HM4:=As.mk (Go.MapKept.heap_alloc w3 (.cells #[.slice B0 (bL (tabOf sp).1).length e0,.slice D0 (mL (tabOf sp).1).length f0,.slice B4 sp.C.length e4,.slice B5 sp.J.length e5,.slice B3 sp.X.length e3] 38)).1;clear hv href hle hb hba d0 d1 d2 d3 HB3)|(go_at_call 37;refine(new_empty v A c _).mono ?_;rintro e w5 ⟨rfl,hb⟩;have HB5:=As.mk (bt_ HB4.out hb);clear hb))
 go_ret
 exact⟨rfl,HB5.out⟩
theorem sf_long {A0 A1 A2 A3:Option Addr} {c0 c1 c2 c3:Nat} {L:List Int} {C:List S165} {J:List S108} {X:List S93} {w:World} (h:CaseAt w A0 A1 A2 A3 c0 c1 c2 c3 L C J X) (A:Option Addr) (c:Nat) (p:List Int) (hr:Kd.C (Kd.int .i64) w A p.length p) (hc:p.length≤c) (B:Option Addr) (d:Nat) (l:List (List Int)) (hr2:Kd.C (Kd.slice 3 (Kd.int .i64)) w B l.length l) {g:Int} (hG:∀ W:World,Below w.heap.size w W->Calls Tryz.prog 13 #[caseV A0 A1 A2 A3 c0 c1 c2 c3 L C J X] W fun e w'=>e=.returned (.int .i64 g)/\Below W.heap.size W w') (h0:g=0) (hl:(l.length:Int)≤10) (hp:64<p.length) :
  Calls Tryz.prog 9 #[caseV A0 A1 A2 A3 c0 c1 c2 c3 L C J X,.slice A p.length c,.slice B l.length d] w fun e w'=>e=.returned (.bool true)/\Below w.heap.size w w':=by
 have HG:=As.mk hG
 have HC:=As.mk h
 have HP:=As.mk hr
 have HL:=As.mk hr2
 have HCP:=As.mk hc
 clear hG h hr hr2 hc
 have HB0:=As.mk (below_alloc (Below.refl w.heap.size w) (.cells #[.slice A0 L.length c0,.slice A1 C.length c1,.slice A2 J.length c2,.slice A3 X.length c3] 27))
 have HK0:=As.mk (Go.MapKept.heap_alloc w (.cells #[.slice A0 L.length c0,.slice A1 C.length c1,.slice A2 J.length c2,.slice A3 X.length c3] 27)).1
 unfold caseV at HG ⊢
 have HO:=As.mk (fun(W:World) (hb:Below w.heap.size w W)=>of_any (HC.out.below hb))
 have HOK:=As.mk (some_ok L C J X)
 unfold caseV at HO
 generalize someS L C J X=sp at HO HOK
 unfold vV at HO
 subst h0
 have hpI:(64:Int)<(p.length:Int):=Z1
 have hq0:((p.length:Int)==0)=false:=Z167
 have HPL:=As.mk hp
 clear hp
 go_enter Tryz.func9,Tryz.ntmps9
 go_wp2_with (first|(go_at_call 13;refine(HG.out _ HB0.out).mono ?_;rintro e w1 ⟨rfl,hb⟩;have HB1:=As.mk (bt_ HB0.out hb);have HK1:=As.mk ((hb.block _ (blk_lt HK0.out)).trans HK0.out);clear hb)|(go_at_call 25;refine(Sk.awake_any _).mono ?_;rintro e w2 ⟨rfl,hb⟩;have HB2:=As.mk (bt_ HB1.out hb);have HK2:=(hb.block _ (blk_lt HK1.out)).trans HK1.out;have d0:=cell_of (i:=0) HK2 rfl;have d1:=cell_of (i:=1) HK2 rfl;have d2:=cell_of (i:=2) HK2 rfl;have d3:=cell_of (i:=3) HK2 rfl;clear hb HK2)|(go_at_call 15;refine(HO.out _ HB2.out).mono ?_;rintro e w3 ⟨v,B0,D0,B3,B4,B5,e0,f0,e3,e4,e5,rfl,hv,href,hle,hb⟩;have HB3:=As.mk (bt_ HB2.out hb);have HLE:=As.mk (Nat.le_trans HB2.out.size hle);have hba:=below_alloc (Below.refl w3.heap.size w3) (.cells #[.slice B0 (bL (tabOf sp).1).length e0,.slice D0 (mL (tabOf sp).1).length f0,.slice B4 sp.C.length e4,.slice B5 sp.J.length e5,.slice B3 sp.X.length e3] 38);have HB4:=As.mk (below_alloc HB3.out (.cells #[.slice B0 (bL (tabOf sp).1).length e0,.slice D0 (mL (tabOf sp).1).length f0,.slice B4 sp.C.length e4,.slice B5 sp.J.length e5,.slice B3 sp.X.length e3] 38));have HV4:=As.mk (hv.below hba);have HV3L:=As.mk hv.lt;have HF4:=As.mk (href.below hba);have HM4:=As.mk (Go.MapKept.heap_alloc w3 (.cells #[.slice B0 (bL (tabOf sp).1).length e0,.slice D0 (mL (tabOf sp).1).length f0,.slice B4 sp.C.length e4,.slice B5 sp.J.length e5,.slice B3 sp.X.length e3] 38)).1;clear hv href hle hb hba d0 d1 d2 d3 HB3)|(go_at_call 37;refine(new_long v A p.length c _ HPL.out).mono ?_;rintro e w5 ⟨rfl,hb⟩;have HB5:=As.mk (bt_ HB4.out hb);clear hb))
 go_ret
 exact⟨rfl,HB5.out⟩
theorem sf_wrong {A0 A1 A2 A3:Option Addr} {c0 c1 c2 c3:Nat} {L:List Int} {C:List S165} {J:List S108} {X:List S93} {w:World} (h:CaseAt w A0 A1 A2 A3 c0 c1 c2 c3 L C J X) (A:Option Addr) (c:Nat) (p:List Int) (hr:Kd.C (Kd.int .i64) w A p.length p) (hc:p.length≤c) (B:Option Addr) (d:Nat) (l:List (List Int)) (hr2:Kd.C (Kd.slice 3 (Kd.int .i64)) w B l.length l) {g:Int} (hG:∀ W:World,Below w.heap.size w W->Calls Tryz.prog 13 #[caseV A0 A1 A2 A3 c0 c1 c2 c3 L C J X] W fun e w'=>e=.returned (.int .i64 g)/\Below W.heap.size W w') (h0:g=0) (hl:(l.length:Int)≤10) (hp:p≠[]) (hp64:p.length≤64) {n:Nat} (hn:p.findIdx? (wrongK (someS L C J X))=some n) :
  Calls Tryz.prog 9 #[caseV A0 A1 A2 A3 c0 c1 c2 c3 L C J X,.slice A p.length c,.slice B l.length d] w fun e w'=>e=.returned (.bool true)/\Below w.heap.size w w':=by
 have HG:=As.mk hG
 have HC:=As.mk h
 have HP:=As.mk hr
 have HL:=As.mk hr2
 have HCP:=As.mk hc
 clear hG h hr hr2 hc
 have HB0:=As.mk (below_alloc (Below.refl w.heap.size w) (.cells #[.slice A0 L.length c0,.slice A1 C.length c1,.slice A2 J.length c2,.slice A3 X.length c3] 27))
 have HK0:=As.mk (Go.MapKept.heap_alloc w (.cells #[.slice A0 L.length c0,.slice A1 C.length c1,.slice A2 J.length c2,.slice A3 X.length c3] 27)).1
 unfold caseV at HG ⊢
 have HO:=As.mk (fun(W:World) (hb:Below w.heap.size w W)=>of_any (HC.out.below hb))
 have HOK:=As.mk (some_ok L C J X)
 unfold caseV at HO
 generalize someS L C J X=sp at HO HOK hn
 unfold vV at HO
 subst h0
 have hpos:=List.length_pos_iff.2 hp
 have hq0:((p.length:Int)==0)=false:=Z167
 have hq64:¬ (64:Int)<(p.length:Int):=Z1
 have HPE:=As.mk hp
 have HN:=As.mk hn
 clear hp hn
 go_enter Tryz.func9,Tryz.ntmps9
 go_wp2_with (first|(go_at_call 13;refine(HG.out _ HB0.out).mono ?_;rintro e w1 ⟨rfl,hb⟩;have HB1:=As.mk (bt_ HB0.out hb);have HK1:=As.mk ((hb.block _ (blk_lt HK0.out)).trans HK0.out);clear hb)|(go_at_call 25;refine(Sk.awake_any _).mono ?_;rintro e w2 ⟨rfl,hb⟩;have HB2:=As.mk (bt_ HB1.out hb);have HK2:=(hb.block _ (blk_lt HK1.out)).trans HK1.out;have d0:=cell_of (i:=0) HK2 rfl;have d1:=cell_of (i:=1) HK2 rfl;have d2:=cell_of (i:=2) HK2 rfl;have d3:=cell_of (i:=3) HK2 rfl;clear hb HK2)|(go_at_call 15;refine(HO.out _ HB2.out).mono ?_;rintro e w3 ⟨v,B0,D0,B3,B4,B5,e0,f0,e3,e4,e5,rfl,hv,href,hle,hb⟩;have HB3:=As.mk (bt_ HB2.out hb);have HLE:=As.mk (Nat.le_trans HB2.out.size hle);have hba:=below_alloc (Below.refl w3.heap.size w3) (.cells #[.slice B0 (bL (tabOf sp).1).length e0,.slice D0 (mL (tabOf sp).1).length f0,.slice B4 sp.C.length e4,.slice B5 sp.J.length e5,.slice B3 sp.X.length e3] 38);have HB4:=As.mk (below_alloc HB3.out (.cells #[.slice B0 (bL (tabOf sp).1).length e0,.slice D0 (mL (tabOf sp).1).length f0,.slice B4 sp.C.length e4,.slice B5 sp.J.length e5,.slice B3 sp.X.length e3] 38));have HV4:=As.mk (hv.below hba);have HV3L:=As.mk hv.lt;have HF4:=As.mk (href.below hba);have HM4:=As.mk (Go.MapKept.heap_alloc w3 (.cells #[.slice B0 (bL (tabOf sp).1).length e0,.slice D0 (mL (tabOf sp).1).length f0,.slice B4 sp.C.length e4,.slice B5 sp.J.length e5,.slice B3 sp.X.length e3] 38)).1;clear hv href hle hb hba d0 d1 d2 d3 HB3)|(go_at_call 37;have hnew:=new_any HV4.out.at_ (Kd.C_below HP.out HB4.out) HCP.out HPE.out hp64;rw[HN.out]at hnew;simp only at hnew;refine hnew.mono ?_;clear hnew;rintro e w5 ⟨hb,rfl⟩;have HB5:=As.mk (bt_ HB4.out hb);have HM5:=As.mk ((hb.block _ (blk_lt HM4.out)).trans HM4.out);clear hb HB4 HM4))
 go_loopg [12] p.length (fun k v12 W=>∃ i:Nat,v12=.int .i64 (i:Int)/\i≤n/\As (p.length-i≤k)/\As (Below w5.heap.size w5 W))
 case atStart=>exact⟨0,rfl,Nat.zero_le _,⟨Z1⟩,⟨Below.refl _ _⟩⟩
 case round =>
  obtain⟨i,rfl,hi,HK,HW⟩:=hrel
  rename World=>W
  obtain⟨hnl,hnw,hnb⟩:=List.findIdx?_eq_some_iff_getElem.1 HN.out
  obtain⟨k1,rfl⟩:∃ k1,gk=k1+1:=⟨gk-1,Z65⟩
  obtain⟨x,hx⟩:∃ x,p[i]?=some x:=⟨_,List.getElem?_eq_getElem (Z1)⟩
  have hxe:p[i]'(Z1)=x:=(List.getElem?_eq_some_iff.1 hx).2
  obtain⟨ad,rfl,_⟩:=rd_at HP.out hx
  have HX:=As.mk hx
  have hil:i<p.length:=Z1
  have hilI:(i:Int)<(p.length:Int):=Z1
  have HWI:=As.mk (show wrap64 ((i:Int)+1)=(i:Int)+1 from w64 (Z1) (Z1))
  have hXl:(sp.X.length:Int)≤1000000:=Z168
  have HNG:=As.mk (show wrap64 (-(sp.X.length:Int))=-(sp.X.length:Int) from w64 (Z1) (Z1))
  by_cases hin:i=n
  ·subst hin
   rw[hxe]at hnw
   unfold wrongK at hnw
   have hww:255<x\/(¬ 255<x/\x < -(sp.X.length:Int)):=by simp at hnw;omega
   clear hnw hnb hnl hx hxe
   rcases hww with hx1|⟨hx1,hx2⟩
   ·have hg:decide ((255:Int)<x)=true:=by simpa using hx1
    go_wp2
    refine start_ (n:=16) (S:=fun w'=>Below W.heap.size W w') (ds:=[]) #[false,false,false,false,false,false,false,false,false,false,false,false,false,false,false,false] (Z15) rfl rfl (below_drew1 (Below.refl _ _)) (fun hHeld=>?_)
    have HD6:=As.mk hHeld;clear hHeld;generalize W.drew=w6 at HD6 ⊢;have hHeld:=HD6.out
    refine pI 0 (some 81) (bs 16 1) ?_
    refine pI 1 (some 82) (bs 16 3) ?_
    refine pI 2 (some 83) (bs 16 7) ?_
    refine tI 3 (some 84) (bs 16 15) rfl (Z169) hHeld ?_
    refine pI 4 (some 85) (bs 16 31) ?_
    refine pI 5 (some 86) (bs 16 63) ?_
    refine pO 6 (some 87) (bs 16 127) ?_
    refine pO 7 (some 88) (bs 16 255) ?_
    refine pO 8 (some 89) (bs 16 511) ?_
    refine pO 10 (some 91) (bs 16 1535) ?_
    refine pO 9 (some 90) (bs 16 2047) ?_
    refine pO 11 (some 92) (bs 16 4095) ?_
    refine pO 12 (some 93) (bs 16 8191) ?_
    refine pO 13 (some 94) (bs 16 16383) ?_
    refine pO 14 (some 95) (bs 16 32767) ?_
    refine pI 15 (some 96) (bs 16 65535) ?_
    refine done_ (Z15) ?_
    go_wp2
    go_ret
    exact⟨rfl,HB5.out.trans ((HW.out.trans (HD6.out.mono HW.out.size)).mono HB5.out.size)⟩
   ·have hg:decide ((255:Int)<x)=false:=by simpa using hx1
    have hg2:decide (x < -(sp.X.length:Int))=true:=by simpa using hx2
    have hng:=HNG.out
    go_wp2
    refine start_ (n:=16) (S:=fun w'=>Below W.heap.size W w') (ds:=[]) #[false,false,false,false,false,false,false,false,false,false,false,false,false,false,false,false] (Z15) rfl rfl (below_drew1 (Below.refl _ _)) (fun hHeld=>?_)
    have HD6:=As.mk hHeld;clear hHeld;generalize W.drew=w6 at HD6 ⊢;have hHeld:=HD6.out
    refine pI 0 (some 81) (bs 16 1) ?_
    refine pI 1 (some 82) (bs 16 3) ?_
    refine pI 2 (some 83) (bs 16 7) ?_
    refine tI 3 (some 84) (bs 16 15) rfl (Z169) hHeld ?_
    refine pI 4 (some 85) (bs 16 31) ?_
    refine pI 5 (some 86) (bs 16 63) ?_
    refine pI 6 (some 87) (bs 16 127) ?_
    refine pI 7 (some 88) (bs 16 255) ?_
    refine pI 8 (some 89) (bs 16 511) ?_
    refine pI 10 (some 91) (bs 16 1535) ?_
    refine tI 9 (some 90) (bs 16 2047) rfl (Z169) hHeld ?_
    refine tI 11 (some 92) (bs 16 4095) rfl (Z170) hHeld ?_
    refine pI 12 (some 93) (bs 16 8191) ?_
    refine pI 13 (some 94) (bs 16 16383) ?_
    refine pI 14 (some 95) (bs 16 32767) ?_
    refine pI 15 (some 96) (bs 16 65535) ?_
    refine done_ (Z15) ?_
    go_wp2
    go_ret
    exact⟨rfl,HB5.out.trans ((HW.out.trans (HD6.out.mono HW.out.size)).mono HB5.out.size)⟩
  ·have hlt:i<n:=by omega
   have hw:=hnb i hlt
   rw[hxe]at hw
   unfold wrongK at hw
   have hww:¬ 255<x/\¬ x < -(sp.X.length:Int):=by simp at hw;omega
   obtain⟨hx1,hx2⟩:=hww
   have hg:decide ((255:Int)<x)=false:=by simpa using hx1
   have hg2:decide (x < -(sp.X.length:Int))=false:=by simpa using hx2
   have hng:=HNG.out
   clear hnw hnb hnl hx hxe hw
   go_wp2
   refine start_ (n:=16) (S:=fun w'=>Below W.heap.size W w') (ds:=[]) #[false,false,false,false,false,false,false,false,false,false,false,false,false,false,false,false] (Z15) rfl rfl (below_drew1 (Below.refl _ _)) (fun hHeld=>?_)
   have HD6:=As.mk hHeld;clear hHeld;generalize W.drew=w6 at HD6 ⊢;have hHeld:=HD6.out
   refine pI 0 (some 81) (bs 16 1) ?_
   refine pI 1 (some 82) (bs 16 3) ?_
   refine pI 2 (some 83) (bs 16 7) ?_
   refine tI 3 (some 84) (bs 16 15) rfl (Z169) hHeld ?_
   refine pI 4 (some 85) (bs 16 31) ?_
   refine pI 5 (some 86) (bs 16 63) ?_
   refine pI 6 (some 87) (bs 16 127) ?_
   refine pI 7 (some 88) (bs 16 255) ?_
   refine pI 8 (some 89) (bs 16 511) ?_
   refine pI 10 (some 91) (bs 16 1535) ?_
   refine tI 9 (some 90) (bs 16 2047) rfl (Z169) hHeld ?_
   refine tI 11 (some 92) (bs 16 4095) rfl (Z170) hHeld ?_
   refine pI 12 (some 93) (bs 16 8191) ?_
   refine pI 13 (some 94) (bs 16 16383) ?_
   refine pI 14 (some 95) (bs 16 32767) ?_
   refine pI 15 (some 96) (bs 16 65535) ?_
   refine done_ (Z15) ?_
   have hwi:=HWI.out
   go_wp2
   go_roundg k1
   case measure=>omega
   case rel=>exact⟨i+1,Z67,Z1,⟨Z65⟩,⟨bt_ HW.out HD6.out⟩⟩
end Go.Proofs.YtkffhgiiejbnaaaGreat.Rt
namespace Go.Proofs.YtkffhgiiejbnaaaGreat.Rt
open Go.RowKit YtkffhgiiejbnaaaGreatW.PrintWords YtkffhgiiejbnaaaGreatW.PrintLast YtkffhgiiejbnaaaGreatW.PrintMore Rf Aid Mp Hp Tk Vc Bn En Sk
def FarI (W W':World):Prop:=∀ (k:Nat) (cs:Array Value) (q:Nat),W.heap[k]?=some (.cells cs q (0,0))->q≠3->W'.heap[k]?=W.heap[k]?
theorem ints_far {W W':World} {u:Value} {base:Nat} {ok:Nat->Prop} {l:List Int} (hu:Kd.R (Kd.int .i64) 3 W base ok u l) (hg:W.grownBy W' u.ownBlock):FarI W W':=fun k cs q hk hq=>hg.block k (blk_lt hk) (fun e=>by
 obtain⟨_,_,_,q',hq',cells,hc⟩:=(Kd.R_bound hu).1 k e.symm
 rw[hk]at hc
 injection hc with hc
 injection hc with _ ht _
 exact hq (ht.trans (List.mem_singleton.1 hq')))
theorem R_farI {α:Type} {kd:Kd α} {e:Nat} {W W':World} {base:Nat} {ok:Nat->Prop} {v:Value} {xs:List α} (f:FarI W W') (h:Kd.R kd e W base ok v xs) (hq:∀ q,q∈e::kd.E->q≠3):Kd.R kd e W' base ok v xs :=
 Kd.R_mono (Kd.R_move (Kd.R_bound h) (fun j hj=>by
  obtain⟨_,_,_,q,hq',cells,hc⟩:=hj
  exact f j _ q hc (hq q hq'))) (fun _ hk=>hk.1)
theorem skAt_farI {w w':World} {d v:Nat} {Ap:Option Addr} {cp g:Nat} {lv:Value} {p xs:List Int} {T:Nat} {last:List (Int × Int)} (h:SkAt w d v Ap cp g lv p xs T last) (f:FarI w w') (hp:Rw w' (.slice Ap p.length cp) p) (hb:Rw w' (.slice (some ⟨g,0,none⟩) (p.length+1) (p.length+1)) (bkL p)):SkAt w' d v Ap cp g lv p xs T last :=
 ⟨(f _ _ _ h.blk (Z31)).trans h.blk,hp,hb,R_farI f h.hl (fun q hq=>Z147)⟩
theorem sf_main {A0 A1 A2 A3:Option Addr} {c0 c1 c2 c3:Nat} {L:List Int} {C:List S165} {J:List S108} {X:List S93} {w:World} (h:CaseAt w A0 A1 A2 A3 c0 c1 c2 c3 L C J X) (A:Option Addr) (c:Nat) (p:List Int) (hr:Kd.C (Kd.int .i64) w A p.length p) (hc:p.length≤c) (B:Option Addr) (d:Nat) (l:List (List Int)) (hr2:Kd.C (Kd.slice 3 (Kd.int .i64)) w B l.length l) {g:Int} (hG:∀ W:World,Below w.heap.size w W->Calls Tryz.prog 13 #[caseV A0 A1 A2 A3 c0 c1 c2 c3 L C J X] W fun e w'=>e=.returned (.int .i64 g)/\Below W.heap.size W w') (h0:g=0) (hl:(l.length:Int)≤10) (hp:p≠[]) (hp64:p.length≤64) (hn:p.findIdx? (wrongK (someS L C J X))=none) :
  Calls Tryz.prog 9 #[caseV A0 A1 A2 A3 c0 c1 c2 c3 L C J X,.slice A p.length c,.slice B l.length d] w fun e w'=>e=.returned (.bool true)/\Below w.heap.size w w':=by
 have HG:=As.mk hG
 have HC:=As.mk h
 have HP:=As.mk hr
 have HL:=As.mk hr2
 have HCP:=As.mk hc
 clear hG h hr hr2 hc
 have HB0:=As.mk (below_alloc (Below.refl w.heap.size w) (.cells #[.slice A0 L.length c0,.slice A1 C.length c1,.slice A2 J.length c2,.slice A3 X.length c3] 27))
 have HK0:=As.mk (Go.MapKept.heap_alloc w (.cells #[.slice A0 L.length c0,.slice A1 C.length c1,.slice A2 J.length c2,.slice A3 X.length c3] 27)).1
 unfold caseV at HG ⊢
 have HO:=As.mk (fun(W:World) (hb:Below w.heap.size w W)=>of_any (HC.out.below hb))
 have HOK:=As.mk (some_ok L C J X)
 unfold caseV at HO
 generalize someS L C J X=sp at HO HOK hn
 unfold vV at HO
 subst h0
 have hpos:=List.length_pos_iff.2 hp
 have hq0:((p.length:Int)==0)=false:=Z167
 have hq64:¬ (64:Int)<(p.length:Int):=Z1
 have HPE:=As.mk (And.intro hp hp64)
 have HLN:=As.mk hl
 have HN:=As.mk hn
 clear hp hn
 go_enter Tryz.func9,Tryz.ntmps9
 go_wp2_with (first|(go_at_call 13;refine(HG.out _ HB0.out).mono ?_;rintro e w1 ⟨rfl,hb⟩;have HB1:=As.mk (bt_ HB0.out hb);have HK1:=As.mk ((hb.block _ (blk_lt HK0.out)).trans HK0.out);clear hb)|(go_at_call 25;refine(Sk.awake_any _).mono ?_;rintro e w2 ⟨rfl,hb⟩;have HB2:=As.mk (bt_ HB1.out hb);have HK2:=(hb.block _ (blk_lt HK1.out)).trans HK1.out;have d0:=cell_of (i:=0) HK2 rfl;have d1:=cell_of (i:=1) HK2 rfl;have d2:=cell_of (i:=2) HK2 rfl;have d3:=cell_of (i:=3) HK2 rfl;clear hb HK2)|(go_at_call 15;refine(HO.out _ HB2.out).mono ?_;rintro e w3 ⟨v,B0,D0,B3,B4,B5,e0,f0,e3,e4,e5,rfl,hv,href,hle,hb⟩;have HB3:=As.mk (bt_ HB2.out hb);have HLE:=As.mk (Nat.le_trans HB2.out.size hle);have hba:=below_alloc (Below.refl w3.heap.size w3) (.cells #[.slice B0 (bL (tabOf sp).1).length e0,.slice D0 (mL (tabOf sp).1).length f0,.slice B4 sp.C.length e4,.slice B5 sp.J.length e5,.slice B3 sp.X.length e3] 38);have HB4:=As.mk (below_alloc HB3.out (.cells #[.slice B0 (bL (tabOf sp).1).length e0,.slice D0 (mL (tabOf sp).1).length f0,.slice B4 sp.C.length e4,.slice B5 sp.J.length e5,.slice B3 sp.X.length e3] 38));have HV4:=As.mk (hv.below hba);have HV3L:=As.mk hv.lt;have HF4:=As.mk (href.below hba);have HM4:=As.mk (Go.MapKept.heap_alloc w3 (.cells #[.slice B0 (bL (tabOf sp).1).length e0,.slice D0 (mL (tabOf sp).1).length f0,.slice B4 sp.C.length e4,.slice B5 sp.J.length e5,.slice B3 sp.X.length e3] 38)).1;clear hv href hle hb hba d0 d1 d2 d3 HB3)|(go_at_call 37;have hnew:=new_any HV4.out.at_ (Kd.C_below HP.out HB4.out) HCP.out HPE.out.1 HPE.out.2;rw[HN.out]at hnew;simp only at hnew;refine hnew.mono ?_;clear hnew;rintro e w5 ⟨hb,q,Ap,cp,gg,rfl,hs,hd1,hd2⟩;have HB5:=As.mk (bt_ HB4.out hb);have HM5:=As.mk ((hb.block _ (blk_lt HM4.out)).trans HM4.out);have HV5:=As.mk (HV4.out.below hb);have HF5:=As.mk (HF4.out.below hb);have HS5:=As.mk hs;have HDD:=As.mk (show v<q/\w3.heap.size<q/\q<w5.heap.size from by have h1:=HV3L.out;have h2:=hd1;simp at h2;omega);clear hb HB4 HM4 HV4 HF4 hs hd1 hd2))
 go_loopg [12] p.length (fun k v12 W=>∃ i:Nat,v12=.int .i64 (i:Int)/\i≤p.length/\As (p.length-i≤k)/\As (Below w5.heap.size w5 W))
 case atStart=>exact⟨0,rfl,Nat.zero_le _,⟨Z1⟩,⟨Below.refl _ _⟩⟩
 case round =>
  obtain⟨i,rfl,hi,HK,HW⟩:=hrel
  rename World=>W
  by_cases hil:i<p.length
  ·obtain⟨k1,rfl⟩:∃ k1,gk=k1+1:=⟨gk-1,Z65⟩
   obtain⟨x,hx⟩:∃ x,p[i]?=some x:=⟨_,List.getElem?_eq_getElem (Z1)⟩
   obtain⟨ad,rfl,_⟩:=rd_at HP.out hx
   have hilI:(i:Int)<(p.length:Int):=Z1
   have HWI:=As.mk (show wrap64 ((i:Int)+1)=(i:Int)+1 from w64 (Z1) (Z1))
   have HNG:=As.mk (show wrap64 (-(sp.X.length:Int))=-(sp.X.length:Int) from w64 (Z168) (Z1))
   have hw:=List.findIdx?_eq_none_iff.1 HN.out x (List.mem_of_getElem? hx)
   unfold wrongK at hw
   have hww:¬ 255<x/\¬ x < -(sp.X.length:Int):=by simp at hw;omega
   obtain⟨hx1,hx2⟩:=hww
   have HX:=As.mk hx
   have hg:decide ((255:Int)<x)=false:=by simpa using hx1
   have hg2:decide (x < -(sp.X.length:Int))=false:=by simpa using hx2
   have hng:=HNG.out
   clear hw hx
   go_wp2
   refine start_ (n:=16) (S:=fun w'=>Below W.heap.size W w') (ds:=[]) #[false,false,false,false,false,false,false,false,false,false,false,false,false,false,false,false] (Z15) rfl rfl (below_drew1 (Below.refl _ _)) (fun hHeld=>?_)
   have HD6:=As.mk hHeld;clear hHeld;generalize W.drew=w6 at HD6 ⊢;have hHeld:=HD6.out
   refine pI 0 (some 81) (bs 16 1) ?_
   refine pI 1 (some 82) (bs 16 3) ?_
   refine pI 2 (some 83) (bs 16 7) ?_
   refine tI 3 (some 84) (bs 16 15) rfl (Z169) hHeld ?_
   refine pI 4 (some 85) (bs 16 31) ?_
   refine pI 5 (some 86) (bs 16 63) ?_
   refine pI 6 (some 87) (bs 16 127) ?_
   refine pI 7 (some 88) (bs 16 255) ?_
   refine pI 8 (some 89) (bs 16 511) ?_
   refine pI 10 (some 91) (bs 16 1535) ?_
   refine tI 9 (some 90) (bs 16 2047) rfl (Z169) hHeld ?_
   refine tI 11 (some 92) (bs 16 4095) rfl (Z170) hHeld ?_
   refine pI 12 (some 93) (bs 16 8191) ?_
   refine pI 13 (some 94) (bs 16 16383) ?_
   refine pI 14 (some 95) (bs 16 32767) ?_
   refine pI 15 (some 96) (bs 16 65535) ?_
   refine done_ (Z15) ?_
   have hwi:=HWI.out
   go_wp2
   go_roundg k1
   case measure=>omega
   case rel=>exact⟨i+1,Z67,Z1,⟨Z65⟩,⟨bt_ HW.out HD6.out⟩⟩
  ·obtain rfl:i=p.length:=by omega
   have hilI:¬ (p.length:Int)<(p.length:Int):=Z1
   have HBX:=As.mk (HB5.out.trans (HW.out.mono HB5.out.size))
   have HSX:=As.mk (HS5.out.below HW.out)
   have HVX:=As.mk (HV5.out.below HW.out)
   have HFX:=As.mk (HF5.out.below HW.out)
   have HMX:=As.mk ((HW.out.block _ (blk_lt HM5.out)).trans HM5.out)
   have HDX:=As.mk (show v<q/\w3.heap.size<q/\q<W.heap.size from by have h1:=HDD.out;have h2:=HW.out.size;omega)
   clear HW HB5 HS5 HV5 HF5 HM5 HDD hil hi HK HN
   have hqb:¬ (p.length:Int)≠(p.length:Int):=by simp
   go_wp2
   go_loopg [13,14,15] l.length (fun k v13 v14 v15 w'=>∃ (i:Nat) (took:List Int) (lv:Value) (sf:Sk.St),v15=.int .i64 (i:Int)/\i≤l.length/\As (took.length≤12 * i)/\As (Kd.R (Kd.int .i64) 3 w' W.heap.size (fun _=>True) v13 took)/\As (Kd.R k65 65 w' W.heap.size (fun _=>True) v14 (matL sp p took))/\As (Inv sp p took sf/\StOk (bare sf) took.length/\badF sp took=none)/\As (SkAt w' q v Ap cp gg lv p (itL sp took) took.length sf.L)/\As (Sk.Fd q v W w')/\As (l.length-i≤k))
   case atStart=>exact⟨0,[],.slice none 0 0,⟨[],0,[],[]⟩,rfl,Z1,⟨by show 0≤_;omega⟩,⟨Kd.R_nil _ _ _ _ _⟩,⟨by rw[show matL sp p []=[] from (inv_nil HPE.out.1).told.symm];exact Kd.R_nil _ _ _ _ _⟩,⟨inv_nil HPE.out.1,⟨by simp[bare],by simp[bare],by simp[bare],by simp[bare],fun x hx=>by cases hx⟩,rfl⟩,HSX,⟨.refl⟩,⟨Z1⟩⟩
   case round =>
    obtain⟨i,took,lv,sf,rfl,hi,HTL,HT,HO,HI,HS,HF,HK⟩:=hrel
    rename World=>V
    obtain⟨A13,c13,rfl⟩:=Kd.R_slice HT.out
    obtain⟨A14,c14,rfl⟩:=Kd.R_slice HO.out
    have HB:=As.mk (HBX.out.trans (HF.out.high (Nat.le_of_lt HDX.out.2.2) HLE.out HDX.out.1))
    have HZ:=As.mk HF.out.size
    by_cases hlt:i<l.length
    ·obtain⟨k1,rfl⟩:∃ k1,gk=k1+1:=⟨gk-1,Z65⟩
     obtain⟨ad,Ai,ci,hA,x0,hci,hCi⟩:=Dc.at_sl HL.out hlt
     subst hA
     have xr:=pw_cell_below HB.out x0
     have HI0:=HI
     clear HI
     have HI:=As.mk hCi
     have HCI:=As.mk hci
     have hltI:(i:Int)<(l.length:Int):=Z1
     have HLT:=As.mk hlt
     generalize l[i]=ids at *
     clear hCi hci hlt
     by_cases hbig:12<ids.length
     ·have hbigI:(12:Int)<(ids.length:Int):=by omega
      clear x0
      go_wp2
      go_ret
      exact⟨rfl,HB.out⟩
     ·have hbigI:¬ (12:Int)<(ids.length:Int):=by omega
      have HBG:=As.mk (show ids.length≤12 from Z1)
      have HWI:=As.mk (show wrap64 ((i:Int)+1)=(i:Int)+1 from w64 (Z1) (by have:=HLN.out;omega))
      have HBA:=As.mk (fun(W:World) {v:Nat} {A0 B0 A3 A4 A5:Option Addr} {c0 d0 c3 c4 c5:Nat} (hf:RefAt W v A0 B0 A3 A4 A5 c0 d0 c3 c4 c5 sp) (hb:Below w.heap.size w W)=>vbad_any hf (Z168) Ai ci ids (Kd.C_below HI.out hb) HCI.out (by have:=HBG.out;omega))
      unfold vV at HBA
      have HA:=As.mk (feed_sk (st:=bare sf) (N:=took.length) (by show SkAt V q v Ap cp gg lv p sf.xs sf.T sf.L;rw[HI0.out.1.xs,HI0.out.1.T];exact HS.out) (HF.out.vocO HVX.out (Nat.le_of_lt HDX.out.2.2) HDX.out.1).at_ HDX.out.1 HPE.out.1 HPE.out.2 HI0.out.2.1 (by have h1:=HTL.out;have h2:=HLN.out;have h3:=HLT.out;omega) rfl (A:=Ai) (c:=ci) (ids:=ids) (fun W' f=>Kd.C_below HI.out (HBX.out.trans ((HF.out.trans f).high (Nat.le_of_lt HDX.out.2.2) HLE.out HDX.out.1))) (by have:=HBG.out;omega))
      cases hbad:badF sp ids with
      | some n =>
       rw[hbad]at HBA
       unfold badI at HBA
       unfold badF at hbad
       rw[hbad]at HA
       simp only at HBA HA
       clear hbad
       go_wp2_with (go_at_call 27;refine HA.out.mono ?_;rintro e w6 ⟨rfl,hb⟩;have HF6:=As.mk (HF.out.kp (Kp.of hb (Nat.le_trans (Nat.le_of_lt HDX.out.2.2) HF.out.size)));have HB6:=As.mk (bt_ HB.out hb);have HS6:=As.mk (HS.out.below hb);have HT6:=As.mk (Kd.R_below HT.out hb);have HO6:=As.mk (Kd.R_below HO.out hb);have HM6:=As.mk (HF6.out.blk HMX.out (Z31) (Z31) (Z31));clear hb xr HA HS HT HO HF HB)
       refine start_ (n:=7) (S:=fun w'=>Below w6.heap.size w6 w') (ds:=[]) #[false,false,false,false,false,false,false] (Z15) rfl rfl (below_drew1 (Below.refl _ _)) (fun hHeld=>?_)
       have HD7:=As.mk hHeld;clear hHeld;generalize w6.drew=w7 at HD7 ⊢;have hHeld:=HD7.out
       refine pI 1 (some 143) (bs 7 2) ?_
       refine pI 2 (some 144) (bs 7 6) ?_
       refine pI 3 (some 145) (bs 7 14) ?_
       refine tI 0 (some 142) (bs 7 15) rfl (Z171) hHeld ?_
       refine tI 4 (some 146) (bs 7 31) rfl (Z172) hHeld ?_
       refine one_ (i:=5) (N:=some 147) (bs 7 63) rfl rfl (Z15) (Z31) (fun K hK=>?_)
       refine goes_ Tryz.func34 (Z15) rfl #[.agg #[.slice B0 (bL (tabOf sp).1).length e0,.slice D0 (mL (tabOf sp).1).length f0,.slice B4 sp.C.length e4,.slice B5 sp.J.length e5,.slice B3 sp.X.length e3],.slice Ai ids.length ci] (by rfl) rfl rfl (Z101) ?_
       refine(HBA.out _ ((HF6.out.ref HFX.out).below HD7.out) (bt_ HB6.out HD7.out)).mono ?_
       rintro e w8 ⟨rfl,hb⟩
       refine⟨_,rfl,?_⟩
       have HD8:=As.mk (bt_ HD7.out hb)
       refine hK.out _ _ HD8.out (fun _=>?_)
       clear hK K hb
       refine nI ?_
       refine pI 6 (some 19) (bs 7 127) ?_
       refine done_ (Z15) ?_
       have HF8:=As.mk (HF6.out.kp (Kp.of HD8.out (Nat.le_trans (Nat.le_of_lt HDX.out.2.2) HF6.out.size)))
       have HB8:=As.mk (bt_ HB6.out HD8.out)
       have HS8:=As.mk (HS6.out.below HD8.out)
       have HT8:=As.mk (Kd.R_below HT6.out HD8.out)
       have HO8:=As.mk (Kd.R_below HO6.out HD8.out)
       have hn0:(0:Int)≤(n:Int):=Z1
       have hwi:=HWI.out
       go_wp2
       go_roundg k1
       case measure=>omega
       case rel=>exact⟨i+1,took,lv,sf,Z67,Z110,⟨by have:=HTL.out;omega⟩,HT8,HO8,HI0,HS8,HF8,⟨Z65⟩⟩
      | none =>
       rw[hbad]at HBA
       unfold badI at HBA
       have HBN:=As.mk hbad
       unfold badF at hbad
       rw[hbad]at HA
       simp only at HBA HA
       obtain⟨hi1,hi2,hi3,hi4,hi5⟩:=feed_told HPE.out.1 HI0.out.1 ids
       rw[hi3,hi4,hi5]at HA
       have HI1:=As.mk (show Inv sp p (took++ids) (feedS sp p sf ids)/\StOk (bare (feedS sp p sf ids)) (took++ids).length/\badF sp (took++ids)=none from⟨hi1,by have h1:=feedS_ok (s:=sp) (p:=p) (fun id=>itemsOf_len HOK.out id) ids HI0.out.2.1;have h2:=bare_ok h1;rw[←(feed_bare sp p ids sf).2]at h2;rw[List.length_append];exact h2,badF_app HI0.out.2.2 HBN.out⟩)
       have HXL:=As.mk (feedS_ok (s:=sp) (p:=p) (fun id=>itemsOf_len HOK.out id) ids HI0.out.2.1).told
       have HITL:=As.mk (show (itL sp (took++ids)).length≤1000000 by have h1:=itL_len (s:=sp) (fun id=>itemsOf_len HOK.out id) (took++ids);rw[List.length_append]at h1;have h2:=HTL.out;have h3:=HBG.out;have h4:=HLN.out;have h5:=HLT.out;omega)
       have HTKL:=As.mk (show (took++ids).length≤1000 by rw[List.length_append];have h2:=HTL.out;have h3:=HBG.out;have h4:=HLN.out;have h5:=HLT.out;omega)
       have HMT0:=fun(W':World) (f:Sk.Fd q v W W') (A':Option Addr) (c':Nat) (ht:Kd.R (Kd.int .i64) 3 W' W.heap.size (fun _=>True) (.slice A' (took++ids).length c') (took++ids))=>matches_any (f.ref HFX.out) HOK.out HPE.out.1 HPE.out.2 (Kd.C_below HP.out (HBX.out.trans (f.high (Nat.le_of_lt HDX.out.2.2) HLE.out HDX.out.1))) HCP.out (Kd.R_reads' ht).2.2 (Kd.R_reads' ht).2.1 HTKL.out HI1.out.2.2
       unfold vV at HMT0
       have HMT:=As.mk HMT0
       have HIS0:=fun(W':World) {v:Nat} {A0 B0 A3 A4 A5:Option Addr} {c0 d0 c3 c4 c5:Nat} (hf:RefAt W' v A0 B0 A3 A4 A5 c0 d0 c3 c4 c5 sp) (A':Option Addr) (c':Nat) (ht:Kd.R (Kd.int .i64) 3 W' W.heap.size (fun _=>True) (.slice A' (took++ids).length c') (took++ids))=>vitems_any hf HOK.out A' c' (took++ids) (Kd.R_reads' ht).2.2 (Kd.R_reads' ht).2.1 (by have:=HTKL.out;omega) HI1.out.2.2
       unfold vV at HIS0
       have HIS:=As.mk HIS0
       have hmlen:∀ t:List Int,(matL sp p t).length≤(itL sp t).length+1:=fun t=>by
        unfold matL posL
        rw[List.length_map]
        have h1:=List.length_filter_le (fun a=>decide (((itL sp t).drop a).take p.length=p)) (List.range ((itL sp t).length+1-p.length))
        rw[List.length_range]at h1
        omega
       have HMLN:=As.mk (show ((matL sp p took).length+((feedS sp p (bare sf) ids).told).length) * 32≤140737488355328 by
        have h1:=HXL.out
        have h2:=hmlen took
        have h3:=itL_len (s:=sp) (fun id=>itemsOf_len HOK.out id) took
        have h4:=HTL.out
        have h5:=HBG.out
        have h6:=HLN.out
        have h7:=HLT.out
        omega)
       have HML:=As.mk (show (matL sp p (took++ids)).length≤1000001 by have h1:=hmlen (took++ids);have h2:=HITL.out;omega)
       have HME:=As.mk hi2
       clear hi1 hi2 hi3 hi4 hi5 hbad HMT0 HIS0 hmlen
       generalize htk:took++ids=tk at *
       have HTKE:=As.mk htk
       clear htk
       generalize matL sp p took=MT at *
       generalize (feedS sp p (bare sf) ids).told=XT at *
       generalize feedS sp p sf ids=sg at *
       generalize hits:itL sp tk=its at *
       generalize hMM:matL sp p tk=MM at *
       have HITS:=As.mk hits
       have HMM:=As.mk hMM
       clear hits hMM
       go_wp2_with (go_at_call 27;refine HA.out.mono ?_;rintro e w6 ⟨u6,lv6,rfl,hu6,hs6,hf6,_⟩;have HF6:=As.mk (HF.out.trans hf6);have HB6:=As.mk (HBX.out.trans (HF6.out.high (Nat.le_of_lt HDX.out.2.2) HLE.out HDX.out.1));have HS6:=As.mk hs6;have HT6:=As.mk (hf6.row HT.out (fun q hq=>Z147));have HO6:=As.mk (hf6.row HO.out (Z31));have HU6:=As.mk (Kd.R_lower hu6 HF.out.size);have HM6:=As.mk (HF6.out.blk HMX.out (Z31) (Z31) (Z31));clear xr hu6 hs6 hf6 HA HS HT HO HF HB;obtain⟨A6,c6,rfl⟩:=Kd.R_slice HU6.out)
       refine start_ (n:=7) (S:=fun w'=>Below w6.heap.size w6 w') (ds:=[]) #[false,false,false,false,false,false,false] (Z15) rfl rfl (below_drew1 (Below.refl _ _)) (fun hHeld=>?_)
       have HD7:=As.mk hHeld;clear hHeld;generalize w6.drew=w7 at HD7 ⊢;have hHeld:=HD7.out
       refine pI 1 (some 143) (bs 7 2) ?_
       refine pI 2 (some 144) (bs 7 6) ?_
       refine pI 3 (some 145) (bs 7 14) ?_
       refine tI 0 (some 142) (bs 7 15) rfl (Z171) hHeld ?_
       refine tI 4 (some 146) (bs 7 31) rfl (Z172) hHeld ?_
       refine one_ (i:=5) (N:=some 147) (bs 7 63) rfl rfl (Z15) (Z31) (fun K hK=>?_)
       refine goes_ Tryz.func34 (Z15) rfl #[.agg #[.slice B0 (bL (tabOf sp).1).length e0,.slice D0 (mL (tabOf sp).1).length f0,.slice B4 sp.C.length e4,.slice B5 sp.J.length e5,.slice B3 sp.X.length e3],.slice Ai ids.length ci] (by rfl) rfl rfl (Z101) ?_
       refine(HBA.out _ ((HF6.out.ref HFX.out).below HD7.out) (bt_ HB6.out HD7.out)).mono ?_
       rintro e w8 ⟨rfl,hb⟩
       refine⟨_,rfl,?_⟩
       have HD8:=As.mk (bt_ HD7.out hb)
       refine hK.out _ _ HD8.out (fun _=>?_)
       clear hK K hb
       refine nI ?_
       refine pI 6 (some 19) (bs 7 127) ?_
       refine done_ (Z15) ?_
       have HF8:=As.mk (HF6.out.kp (Kp.of HD8.out (Nat.le_trans (Nat.le_of_lt HDX.out.2.2) HF6.out.size)))
       have HB8:=As.mk (bt_ HB6.out HD8.out)
       have HS8:=As.mk (HS6.out.below HD8.out)
       have HT8:=As.mk (Kd.R_below HT6.out HD8.out)
       have HO8:=As.mk (Kd.R_below HO6.out HD8.out)
       have HU8:=As.mk (Kd.R_below HU6.out HD8.out)
       have x8:=pw_cell_below HB8.out x0
       clear HS6 HT6 HO6 HU6 HF6 HB6
       go_wp2_with (first|((with_reducible refine gate_builtin (b:=.append) (xs:=#[.tmp 162,.tmp 166]) rfl ?_);at_builtin;go_loud (refine Kd.R_append_rows (Kd.int .i64) (Rr:=(Kd.int .i64).K w8) (w0:=w8) W.heap.size rfl (.tmp 162) (.tmp 166) 41 3 (.int .i64 0) 8 rfl Tryz.underlying41 info3 rfl (Z31) (Z1) (.slice A13 took.length c13) took ids Ai ids.length ci (fun _=>True) (fun _=>False) (by rfl) (by rfl) HT8.out (Kd.C_below HI.out HB8.out) (fun x cs hk=>hk) (fun _ hk=>hk.elim) (fun _ _=>trivial) (Below.refl _ _) HF8.out.size (by have h1:=HTL.out;have h2:=HBG.out;have h3:=HLN.out;have h4:=HLT.out;omega) ?_;intro u9 w9 ho hb hg hat;rw[HTKE.out]at ho;have hfi:=ints_far HT8.out hg;have HF9:=As.mk (HF8.out.far hg (fun j e=>((Kd.R_bound HT8.out).1 j e).2.1));have HO9:=As.mk (R_farI hfi HO8.out (Z31));have HU9:=As.mk (R_farI hfi HU8.out (Z31));have HS9:=As.mk (skAt_farI HS8.out hfi (HF9.out.rw HSX.out.hp) (HF9.out.rw HSX.out.hb));have HT9:=As.mk ho;clear ho hb hg hat hfi HO8 HU8 HS8 HT8 HF8;obtain⟨A9,c9,rfl⟩:=Kd.R_slice HT9.out))|((with_reducible refine gate_builtin (b:=.append) (xs:=#[.tmp 168,.tmp 169]) rfl ?_);at_builtin;go_loud (refine Kd.R_append_rows k65 (Rr:=k65.K w9) (w0:=w9) W.heap.size rfl (.tmp 168) (.tmp 169) 60 65 (.agg #[.int .i64 0,.int .i64 0,.int .i64 0,.bool false]) 32 rfl Tryz.underlying60 info_mt rfl (Z31) (Z1) (.slice A14 MT.length c14) MT XT A6 XT.length c6 (fun _=>True) (fun _=>False) (by rfl) (by rfl) HO9.out (Kd.R_reads' HU9.out).2.2 (fun x cs hk=>by rw[k65_open hk];exact k65_mkM _ _ _ x) (fun _ hk=>hk.elim) (fun _ _=>trivial) (Below.refl _ _) HF9.out.size (by have h1:=HMLN.out;omega) ?_;intro u10 w10 ho hb hg hat;rw[←HME.out]at ho;have hf:=match_far HO9.out hg;have HF10:=As.mk (HF9.out.far hg (fun j e=>((Kd.R_bound HO9.out).1 j e).2.1));have HT10:=As.mk (R_far hf HT9.out (Z31));have HS10:=As.mk (HS9.out.far hf);have HO10:=As.mk ho;clear ho hb hg hat hf HO9 HU9 HS9 HT9 HF9;obtain⟨A10,c10,rfl⟩:=Kd.R_slice HO10.out;have hm:=HF10.out.blk HMX.out (Z31) (Z31) (Z31);have m0:=Vc.cell_of (i:=0) hm rfl;have m1:=Vc.cell_of (i:=1) hm rfl;have m2:=Vc.cell_of (i:=2) hm rfl;have m3:=Vc.cell_of (i:=3) hm rfl;have m4:=Vc.cell_of (i:=4) hm rfl))|(go_at_call 38;go_loud (refine(HMT.out w10 HF10.out A9 c9 HT10.out).mono ?_;rintro e w11 ⟨sv,rfl,ho,hb⟩;have HF11:=As.mk (HF10.out.kp (Kp.of hb (Nat.le_trans (Nat.le_of_lt HDX.out.2.2) HF10.out.size)));have HT11:=As.mk (Kd.R_below HT10.out hb);have HO11:=As.mk (Kd.R_below HO10.out hb);have HS11:=As.mk (HS10.out.below hb);have HW11:=As.mk ho;have HM11:=As.mk (HF11.out.blk HMX.out (Z31) (Z31) (Z31));have HB11:=As.mk (HBX.out.trans (HF11.out.high (Nat.le_of_lt HDX.out.2.2) HLE.out HDX.out.1));clear ho hb HT10 HO10 HS10 HF10 hm m0 m1 m2 m3 m4;obtain⟨A11,c11,rfl⟩:=Kd.R_slice HW11.out)))
       clear x8
       refine start_ (n:=44) (S:=fun w'=>Below w11.heap.size w11 w') (ds:=[]) #[false,false,false,false,false,false,false,false,false,false,false,false,false,false,false,false,false,false,false,false,false,false,false,false,false,false,false,false,false,false,false,false,false,false,false,false,false,false,false,false,false,false,false,false] (Z15) rfl rfl (below_drew1 (Below.refl _ _)) (fun hHeld=>?_)
       have HD12:=As.mk hHeld;clear hHeld;generalize w11.drew=w12 at HD12 ⊢;have hHeld:=HD12.out
       refine pI 0 (some 175) (bs 44 1) ?_
       refine pI 1 (some 176) (bs 44 3) ?_
       refine pI 2 (some 177) (bs 44 7) ?_
       refine pI 3 (some 178) (bs 44 15) ?_
       refine tI 4 (some 179) (bs 44 31) rfl (by intro w' hS';have s0:=hS';have y0:=pw_cell_below (bt_ HB11.out hS') x0;go_simp;with_reducible rfl) hHeld ?_
       refine pI 5 (some 180) (bs 44 63) ?_
       refine pI 6 (some 181) (bs 44 127) ?_
       refine pI 7 (some 182) (bs 44 255) ?_
       refine pI 8 (some 183) (bs 44 511) ?_
       refine pI 9 (some 184) (bs 44 1023) ?_
       refine pI 10 (some 185) (bs 44 2047) ?_
       refine pI 11 (some 186) (bs 44 4095) ?_
       refine pI 12 (some 187) (bs 44 8191) ?_
       refine pI 13 (some 188) (bs 44 16383) ?_
       refine pI 14 (some 189) (bs 44 32767) ?_
       refine pI 15 (some 190) (bs 44 65535) ?_
       refine pI 16 (some 191) (bs 44 131071) ?_
       refine pI 17 (some 192) (bs 44 262143) ?_
       refine pI 18 (some 193) (bs 44 524287) ?_
       refine pI 19 (some 194) (bs 44 1048575) ?_
       refine pI 22 (some 197) (bs 44 5242879) ?_
       refine tI 21 (some 196) (bs 44 7340031) rfl (Z173) hHeld ?_
       refine one_ (i:=20) (N:=some 195) (bs 44 8388607) rfl rfl (Z15) (Z31) (fun K hK=>?_)
       refine goes_ Tryz.func39 (Z15) rfl #[.pointer (some ⟨q,0,none⟩)] (by rfl) rfl rfl (Z101) ?_
       refine(items_sk (HS11.out.below HD12.out)).mono ?_
       rintro e w13 ⟨rfl,rfl⟩
       refine⟨_,rfl,?_⟩
       refine hK.out _ _ HD12.out (fun hHeld=>?_)
       clear hK K
       refine nI ?_
       refine one_ (i:=23) (N:=some 198) (bs 44 16777215) rfl rfl (Z15) (Z31) (fun K hK=>?_)
       refine goes_ Tryz.func36 (Z15) rfl #[.agg #[.slice B0 (bL (tabOf sp).1).length e0,.slice D0 (mL (tabOf sp).1).length f0,.slice B4 sp.C.length e4,.slice B5 sp.J.length e5,.slice B3 sp.X.length e3],.slice A9 tk.length c9] (by rfl) rfl rfl (Z101) ?_
       refine(HIS.out _ ((HF11.out.ref HFX.out).below HD12.out) A9 c9 (Kd.R_below HT11.out HD12.out)).mono ?_
       rintro e w13 ⟨v0,rfl,ho,hb⟩
       refine⟨_,rfl,?_⟩
       have HD13:=As.mk (bt_ HD12.out hb)
       obtain⟨Ay,cy,rfl⟩:=Kd.R_slice ho
       clear ho hb
       refine hK.out _ _ HD13.out (fun hHeld=>?_)
       clear hK K
       refine nI ?_
       refine pI 24 (some 199) (bs 44 33554431) ?_
       refine pI 25 (some 200) (bs 44 67108863) ?_
       refine pI 26 (some 201) (bs 44 134217727) ?_
       refine pI 27 (some 202) (bs 44 268435455) ?_
       refine pI 28 (some 203) (bs 44 536870911) ?_
       refine pI 30 (some 205) (bs 44 1610612735) ?_
       refine pI 31 (some 206) (bs 44 3758096383) ?_
       refine one_ (i:=29) (N:=some 204) (bs 44 4294967295) rfl rfl (Z15) (Z31) (fun K hK=>?_)
       refine goes_ Tryz.func40 (Z15) rfl #[.pointer (some ⟨q,0,none⟩)] (by rfl) rfl rfl (Z101) ?_
       refine(tokens_sk (HS11.out.below HD13.out)).mono ?_
       rintro e w14 ⟨rfl,rfl⟩
       refine⟨_,rfl,?_⟩
       refine hK.out _ _ HD13.out (fun hHeld=>?_)
       clear hK K
       refine nI ?_
       refine pI 32 (some 207) (bs 44 8589934591) ?_
       refine pI 33 (some 208) (bs 44 17179869183) ?_
       refine pI 34 (some 209) (bs 44 34359738367) ?_
       refine pI 35 (some 210) (bs 44 68719476735) ?_
       refine pI 37 (some 212) (bs 44 206158430207) ?_
       refine pI 39 (some 214) (bs 44 755914244095) ?_
       refine tI 38 (some 213) (bs 44 1030792151039) rfl (Z173) hHeld ?_
       refine one_ (i:=36) (N:=some 211) (bs 44 1099511627775) rfl rfl (Z15) (Z31) (fun K hK=>?_)
       refine goes_ Tryz.func41 (Z15) rfl #[.pointer (some ⟨q,0,none⟩)] (by rfl) rfl rfl (Z101) ?_
       refine(partial_sk (HS11.out.below HD13.out) HPE.out.1 (by have:=HPE.out.2;omega)).mono ?_
       rintro e w14 ⟨rfl,hb⟩
       refine⟨_,rfl,?_⟩
       have HD14:=As.mk (bt_ HD13.out hb)
       clear hb
       refine hK.out _ _ HD14.out (fun hHeld=>?_)
       clear hK K
       refine nI ?_
       refine one_ (i:=40) (N:=some 215) (bs 44 2199023255551) rfl rfl (Z15) (Z31) (fun K hK=>?_)
       refine goes_ Tryz.func36 (Z15) rfl #[.agg #[.slice B0 (bL (tabOf sp).1).length e0,.slice D0 (mL (tabOf sp).1).length f0,.slice B4 sp.C.length e4,.slice B5 sp.J.length e5,.slice B3 sp.X.length e3],.slice A9 tk.length c9] (by rfl) rfl rfl (Z101) ?_
       refine(HIS.out _ ((HF11.out.ref HFX.out).below HD14.out) A9 c9 (Kd.R_below HT11.out HD14.out)).mono ?_
       rintro e w15 ⟨v0,rfl,ho,hb⟩
       refine⟨_,rfl,?_⟩
       have HD15:=As.mk (bt_ HD14.out hb)
       have HR15:=As.mk ho
       obtain⟨Az,cz,rfl⟩:=Kd.R_slice ho
       clear ho hb
       refine hK.out _ _ HD15.out (fun hHeld=>?_)
       clear hK K
       refine nI ?_
       refine one_ (i:=41) (N:=some 216) (bs 44 4398046511103) rfl rfl (Z15) (Z31) (fun K hK=>?_)
       refine goes_ Tryz.func42 (Z15) rfl #[.slice A p.length c,.slice Az its.length cz] (by rfl) rfl rfl (Z101) ?_
       refine(lawPart_any HPE.out.2 HITL.out (Kd.C_below HP.out (bt_ HB11.out HD15.out)) HCP.out (Kd.R_reads' HR15.out).2.2 (Kd.R_reads' HR15.out).2.1 HPE.out.1).mono ?_
       rintro e w16 ⟨rfl,hb⟩
       refine⟨_,rfl,?_⟩
       have HD16:=As.mk (bt_ HD15.out hb)
       clear hb
       refine hK.out _ _ HD16.out (fun hHeld=>?_)
       clear hK K
       refine nI ?_
       refine pI 42 (some 217) (bs 44 8796093022207) ?_
       refine pI 43 (some 218) (bs 44 17592186044415) ?_
       refine done_ (Z15) ?_
       have HB16:=As.mk (bt_ HB11.out HD16.out)
       have HF16:=As.mk (HF11.out.kp (Kp.of HD16.out (Nat.le_trans (Nat.le_of_lt HDX.out.2.2) HF11.out.size)))
       have HS16:=As.mk (HS11.out.below HD16.out)
       have HT16:=As.mk (Kd.R_below HT11.out HD16.out)
       have HO16:=As.mk (Kd.R_below HO11.out HD16.out)
       have HW16:=As.mk (Kd.R_below HW11.out HD16.out)
       clear HS11 HT11 HO11 HW11 HF11 HD12 HD13 HD14 HD15 HD16 HR15 HMT HIS HBA HB11
       go_wp2
       go_loopg [21] MM.length (fun k v21 U=>∃ j:Nat,v21=.int .i64 (j:Int)/\j≤MM.length/\As (MM.length-j≤k)/\As (Below w16.heap.size w16 U))
       case atStart=>exact⟨0,rfl,Nat.zero_le _,⟨Z1⟩,⟨Below.refl _ _⟩⟩
       case round =>
        obtain⟨j,rfl,hj,HK2,HW⟩:=hrel
        rename World=>U
        by_cases hjl:j<MM.length
        ·obtain⟨k2,rfl⟩:∃ k2,gk=k2+1:=⟨gk-1,Z160⟩
         have hjI:(j:Int)<(MM.length:Int):=Z1
         obtain⟨x,hx⟩:∃ x,MM[j]?=some x:=⟨_,List.getElem?_eq_getElem hjl⟩
         obtain⟨f0',f1',f2',f3'⟩:=x
         obtain⟨g1,hg1,_⟩:=mt_cells HO16.out hx
         subst hg1
         obtain⟨g2,hg2,_⟩:=mt_cells HW16.out hx
         subst hg2
         have HX:=As.mk hx
         have hneq:=mt_neq ⟨f0',f1',f2',f3'⟩
         dsimp only at hneq
         have HWJ:=As.mk (show wrap64 ((j:Int)+1)=(j:Int)+1 from w64 (Z1) (by have:=HML.out;omega))
         clear hx
         go_wp2
         refine start_ (n:=9) (S:=fun w'=>Below U.heap.size U w') (ds:=[]) #[false,false,false,false,false,false,false,false,false] (Z15) rfl rfl (below_drew1 (Below.refl _ _)) (fun hHeld=>?_)
         have HD20:=As.mk hHeld;clear hHeld;generalize U.drew=w20 at HD20 ⊢;have hHeld:=HD20.out
         refine pI 0 (some 225) (bs 9 1) ?_
         refine pI 1 (some 226) (bs 9 3) ?_
         refine pI 2 (some 227) (bs 9 7) ?_
         refine pI 4 (some 229) (bs 9 23) ?_
         refine pI 5 (some 230) (bs 9 55) ?_
         refine pI 6 (some 231) (bs 9 119) ?_
         refine tI 3 (some 228) (bs 9 127) rfl (by intro w' hS';have s0:=hS';obtain⟨_,e,y0,y1,y2,y3⟩:=mt_cells (Kd.R_below HO16.out (bt_ HW.out hS')) HX.out;injection e with e;injection e with e;subst e;go_simp;with_reducible rfl) hHeld ?_
         refine tI 7 (some 232) (bs 9 255) rfl (by intro w' hS';have s0:=hS';obtain⟨_,e,y0,y1,y2,y3⟩:=mt_cells (Kd.R_below HW16.out (bt_ HW.out hS')) HX.out;injection e with e;injection e with e;subst e;go_simp;with_reducible rfl) hHeld ?_
         refine pI 8 (some 233) (bs 9 511) ?_
         refine done_ (Z15) ?_
         have hwj:=HWJ.out
         go_wp2
         go_roundg k2
         case measure=>omega
         case rel=>exact⟨j+1,Z67,Z1,⟨Z160⟩,⟨bt_ HW.out HD20.out⟩⟩
        ·obtain rfl:j=MM.length:=by omega
         have HF20:=As.mk (HF16.out.kp (Kp.of HW.out (Nat.le_trans (Nat.le_of_lt HDX.out.2.2) HF16.out.size)))
         have HS20:=As.mk (HS16.out.below HW.out)
         have HT20:=As.mk (Kd.R_below HT16.out HW.out)
         have HO20:=As.mk (Kd.R_below HO16.out HW.out)
         have hwi:=HWI.out
         clear HS16 HT16 HO16 HW16 HF16
         go_wp2
         go_roundg k1
         case measure=>omega
         case rel=>exact⟨i+1,tk,lv6,sg,Z67,Z110,⟨by rw[←HTKE.out,List.length_append];have h1:=HTL.out;have h2:=HBG.out;omega⟩,HT20,⟨by rw[HMM.out];exact HO20.out⟩,HI1,⟨by rw[HITS.out];exact HS20.out⟩,HF20,⟨Z65⟩⟩
    ·obtain rfl:i=l.length:=by omega
     have HBE:=As.mk HB.out
     clear HT HO
     have HQE:=As.mk (show w.heap.size≤q from by have h1:=HDX.out;have h2:=HLE.out;omega)
     go_wp2_with (first
      | (go_at_call 43;refine(reset_sk HS.out (Nat.le_of_lt (Nat.lt_of_lt_of_le HDX.out.2.2 HZ.out))).mono ?_;rintro e w6 ⟨rfl,hs,hk⟩;have HS6:=As.mk hs;have HB6:=As.mk (HBE.out.trans (hk.1.mono HQE.out));clear hs hk HS)
      | (go_at_call 39;refine(items_sk HS6.out).mono ?_;rintro e w7 ⟨rfl,rfl⟩)
      | (go_at_call 40;refine(tokens_sk HS6.out).mono ?_;rintro e w7 ⟨rfl,rfl⟩)
      | (go_at_call 41;refine(partial_sk HS6.out HPE.out.1 (by have:=HPE.out.2;omega)).mono ?_;rw[part_nil];rintro e w8 ⟨rfl,hb⟩;have HB8:=As.mk (bt_ HB6.out hb);clear hb))
     go_ret
     exact⟨rfl,HB8.out⟩
end Go.Proofs.YtkffhgiiejbnaaaGreat.Rt
namespace Go.Proofs.YtkffhgiiejbnaaaGreat.Rt
open Go.RowKit YtkffhgiiejbnaaaGreatW.PrintWords YtkffhgiiejbnaaaGreatW.PrintLast YtkffhgiiejbnaaaGreatW.PrintMore Rf Aid Mp Hp Tk Vc Bn En Sk
theorem seekFeeds_any {A0 A1 A2 A3:Option Addr} {c0 c1 c2 c3:Nat} {L:List Int} {C:List S165} {J:List S108} {X:List S93} {w:World} (h:CaseAt w A0 A1 A2 A3 c0 c1 c2 c3 L C J X) (A:Option Addr) (c:Nat) (p:List Int) (hr:Kd.C (Kd.int .i64) w A p.length p) (hc:p.length≤c) (B:Option Addr) (d:Nat) (l:List (List Int)) (hr2:Kd.C (Kd.slice 3 (Kd.int .i64)) w B l.length l) :
  Calls Tryz.prog 9 #[caseV A0 A1 A2 A3 c0 c1 c2 c3 L C J X,.slice A p.length c,.slice B l.length d] w fun e w'=>e=.returned (.bool true)/\Below w.heap.size w w':=by
 obtain⟨g,hg01,hG⟩:=great_any h
 by_cases he:g=1\/(g=0/\(10:Int)<(l.length:Int))
 ·exact sf_early h A c p hr hc B d l hr2 hG he
 ·have h0:g=0:=by omega
  have hl:(l.length:Int)≤10:=Z1
  by_cases hp:p=[]
  ·exact sf_empty h A c p hr hc B d l hr2 hG h0 hl hp
  ·by_cases hp64:64<p.length
   ·exact sf_long h A c p hr hc B d l hr2 hG h0 hl hp64
   ·cases hn:p.findIdx? (wrongK (someS L C J X)) with
    | some n=>exact sf_wrong h A c p hr hc B d l hr2 hG h0 hl hp (Z1) hn
    | none=>exact sf_main h A c p hr hc B d l hr2 hG h0 hl hp (Z1) hn
end Go.Proofs.YtkffhgiiejbnaaaGreat.Rt
