import Derived.Test.YtkffhgiiejbnaaaGreatQMap
import Derived.Test.YtkffhgiiejbnaaaGreatQ01
import Derived.Test.YtkffhgiiejbnaaaGreatQHp
set_option maxHeartbeats 400000
set_option linter.unusedVariables false
set_option linter.unusedSimpArgs false
namespace Go.Proofs.YtkffhgiiejbnaaaGreat.Ms
open Go.MapKept Go.RowKit Mp
def encM (k:Int × Int):Value:=.agg #[.int .i64 k.1,.int .i64 k.2]
theorem encM_inj {a b:Int × Int} (h:encM a=encM b):a=b:=by
 obtain⟨a1,a2⟩:=a;obtain⟨b1,b2⟩:=b
 simp[encM]at h
 rw[h.1,h.2]
theorem eq_run (a b:Int × Int) (w:World):(Op.equal 91 (encM a) (encM b)).run Tryz.prog w=.ok (decide (a=b)) w:=by
 obtain⟨a1,a2⟩:=a;obtain⟨b1,b2⟩:=b
 have hS:Tryz.prog.underlying 91=some (.struct (Tryz.prog.fieldsOf 91)):=Z15
 have hp:Tryz.prog.stoodInHeld 91=false:=Z15
 have u3:=Tryz.underlying3
 have a3:=Tryz.isAgg3
 have z3:=Tryz.sizeOf3
 unfold Op.equal encM
 rw[show Op.maxDepth=9999+1 from rfl,run_equalIn_agg w 9999 91 _ _ hS hp]
 simp only[Program.fieldsOf,Tryz.underlying91]
 go_simp
 by_cases h1:a1=b1 <;> by_cases h2:a2=b2 <;> simp[h1,h2]
theorem check_leaf (e:Bool) (n:Nat) (k:Int) (w:World):(Instr.checkKey e (n+1) 3 (.int .i64 k)).run Tryz.prog w=.ok () w:=by
 simp[Instr.checkKey,run_underlying Tryz.underlying3,Result.andThen]
theorem check_two (e:Bool) (n:Nat) (a:Int × Int) (w:World):(Instr.checkKey e (n+1+1) 91 (encM a)).run Tryz.prog w=.ok () w:=by
 have a3:=Tryz.isAgg3
 have z3:=Tryz.sizeOf3
 have hl:=check_leaf e n
 unfold encM
 rw[Instr.checkKey]
 simp only[Sem.run_bind,run_underlying Tryz.underlying91,Result.andThen_ok]
 rw[←Array.forIn_toList]
 simp[part,asAgg,go_sem,hl,a3,z3]
theorem check_run (e:Bool) (a:Int × Int) (w:World):(Instr.checkKey e 10000 91 (encM a)).run Tryz.prog w=.ok () w:=check_two e 9998 a w
def MapIs (w:World) (b:Nat) (l:List ((Int × Int) × Value)):Prop :=
 ∃ es clock,w.heap[b]?=some (.map es clock)/\Stamped es clock/\es.toList.map (fun e=>(e.key,e.val))=l.map (fun p=>(encM p.1,p.2))
theorem MapIs.of_block {w w':World} {b:Nat} {l:List ((Int × Int) × Value)} (h:MapIs w b l) (hb:w'.heap[b]?=w.heap[b]?):MapIs w' b l:=by
 obtain⟨es,clock,h1,h2,h3⟩:=h
 exact⟨es,clock,hb.trans h1,h2,h3⟩
theorem MapIs.lt {w:World} {b:Nat} {l:List ((Int × Int) × Value)} (h:MapIs w b l):b<w.heap.size:=by
 obtain⟨es,clock,h1,_⟩:=h
 exact(Array.getElem?_eq_some_iff.1 h1).1
theorem asking (k:Int × Int) (w:World):∀ (es:List MapEntry) (l:List ((Int × Int) × Value)) (i:Nat),es.map (fun e=>(e.key,e.val))=l.map (fun p=>(encM p.1,p.2)) →
  ((Instr.findAsking 91 (encM k) es i).run Tryz.prog w=.ok none w/\get? l k=none/\(∀ x∈es,x.key≠encM k)) ∨
  ∃ j e,(Instr.findAsking 91 (encM k) es i).run Tryz.prog w=.ok (some (i+j,e.val)) w/\es[j]?=some e/\e.key=encM k/\get? l k=some e.val
 | [],[],i,_=>.inl ⟨by simp[Instr.findAsking],rfl,by simp⟩
 | [],_::_,_,h=>by simp at h
 | _::_,[],_,h=>by simp at h
 | e::es,p::l,i,h=>by
  simp only[List.map_cons,List.cons.injEq,Prod.mk.injEq]at h
  obtain⟨⟨hk,hv⟩,ht⟩:=h
  rw[get?_cons]
  have hr:=eq_run k p.1 w
  rw[←hk]at hr
  by_cases hp:k=p.1
  ·rw[decide_eq_true hp]at hr
   exact .inr ⟨0,e,by simp[Instr.findAsking,hr,Result.andThen],rfl,by rw[hk,hp],by rw[if_pos hp.symm,hv]⟩
  ·rw[decide_eq_false hp]at hr
   rw[if_neg (Ne.symm hp)]
   have hne:e.key≠encM k:=fun q=>hp (encM_inj (q.symm.trans hk))
   rcases asking k w es l (i+1) ht with⟨h1,h2,h3⟩|⟨j,e',h1,h2,h3,h4⟩
   ·exact .inl ⟨by simp[Instr.findAsking,hr,h1,Result.andThen],h2,fun x hx=>by
     cases hx with
     | head=>exact hne
     | tail _ hx=>exact h3 x hx⟩
   ·exact .inr ⟨j+1,e',by simp[Instr.findAsking,hr,h1,Result.andThen];omega,by simpa using h2,h3,h4⟩
theorem find_spec (k:Int × Int) (w:World) (es:List MapEntry) (l:List ((Int × Int) × Value)) (h:es.map (fun e=>(e.key,e.val))=l.map (fun p=>(encM p.1,p.2))) :
  ((Instr.findKey 91 (encM k) es).run Tryz.prog w=.ok none w/\get? l k=none/\(∀ x∈es,x.key≠encM k)) ∨
  ∃ j e,(Instr.findKey 91 (encM k) es).run Tryz.prog w=.ok (some (j,e.val)) w/\es[j]?=some e/\e.key=encM k/\get? l k=some e.val:=by
 have ha:=asking k w es l 0 h
 cases es with
 | nil =>
  rcases ha with⟨_,h2,h3⟩|⟨j,e,_,h2,_⟩
  ·exact .inl ⟨by simp[Instr.findKey,run_underlying Tryz.underlying91,Instr.findNow,Result.andThen],h2,h3⟩
  ·simp at h2
 | cons e0 es =>
  have hn:∀ fs,Instr.findNow (.struct fs) (encM k) (e0::es) 0=none:=fun fs=>by simp[Instr.findNow,Instr.sameNow]
  have hf:(Instr.findKey 91 (encM k) (e0::es)).run Tryz.prog w=(Instr.findAsking 91 (encM k) (e0::es) 0).run Tryz.prog w:=by
   simp[Instr.findKey,run_underlying Tryz.underlying91,hn,Result.andThen]
  rw[hf]
  rcases ha with h1|⟨j,e,h1,h2⟩
  ·exact .inl h1
  ·exact .inr ⟨j,e,by rw[h1,Nat.zero_add],h2⟩
section
variable {w:World} {mty et:TypeId} {b:Nat} {l:List ((Int × Int) × Value)}
theorem lookup_ok (hm:Tryz.prog.underlying mty=some (.map 91 et)) (h:MapIs w b l) (k:Int × Int) {z:Value} (hz:(zeroValue et).run Tryz.prog w=.ok z w) :
  (Instr.lookup mty (.map (some b)) (encM k) true).run Tryz.prog w=.ok (.tuple #[(get? l k).getD z,.bool (get? l k).isSome]) w:=by
 obtain⟨es,clock,hb,hs,hl⟩:=h
 rcases find_spec k w es.toList l hl with⟨h1,h2,h3⟩|⟨j,e,h1,h2,h3,h4⟩
 ·simp[Instr.lookup,run_underlying hm,MapKept.run_getObj_map hb,check_run,h1,hz,h2,Result.andThen]
 ·simp[Instr.lookup,run_underlying hm,MapKept.run_getObj_map hb,check_run,h1,h4,Result.andThen]
theorem entry_run (hm:Tryz.prog.underlying mty=some (.map 91 et)) (h:MapIs w b l) (k:Int × Int) (hk:get? l k=none) {z:Value} (hz:(zeroValue et).run Tryz.prog w=.ok z w) :
  ∃ n w1,(Instr.mapEntry mty (.map (some b)) (encM k)).run Tryz.prog w=.ok (.tuple #[z,.int .i64 n]) w1/\But b w w1 ∧
   ∀ v,∃ w2,(Instr.entryStore mty (.map (some b)) (.int .i64 n) v).run Tryz.prog w1=.ok () w2/\But b w1 w2/\MapIs w2 b (l++[(k,v)]):=by
 obtain⟨es,clock,hb,hs,hl⟩:=h
 rcases find_spec k w es.toList l hl with⟨h1,h2,h3⟩|⟨j,e,h1,h2,h3,h4⟩
 ·have hs':=stamped_push (val:=z) hs h3
  refine⟨clock,{ w with heap:=w.heap.setIfInBounds b (.map (es.push { key:=encM k,val:=z,born:=clock }) (clock+1)) },by simp[Instr.mapEntry,run_underlying hm,MapKept.run_getObj_map hb,check_run,h1,hz,run_setObj_map _ hb,Result.andThen,goInt],But.of_set _ _ _,fun v=>?_⟩
  obtain⟨w1,hw1⟩:∃ w1:World,w1={ w with heap:=w.heap.setIfInBounds b (.map (es.push { key:=encM k,val:=z,born:=clock }) (clock+1)) }:=⟨_,rfl⟩
  rw[←hw1]
  have hb1:w1.heap[b]?=some (.map (es.push { key:=encM k,val:=z,born:=clock }) (clock+1)):=by rw[hw1];exact(heap_set (o':=.map (es.push { key:=encM k,val:=z,born:=clock }) (clock+1)) hb).1
  have hfind:(es.push { key:=encM k,val:=z,born:=clock }).findIdx? (fun e=>(e.born:Int)==(clock:Int))=some es.size:=by
   rw[Array.findIdx?_push]
   have:es.findIdx? (fun e=>(e.born:Int)==(clock:Int))=none:=by
    rw[Array.findIdx?_eq_none_iff]
    intro x hx
    have:=hs.1 x (Array.mem_toList_iff.2 hx)
    simp;omega
   simp[this]
  clear hw1
  refine⟨{ w1 with heap:=w1.heap.setIfInBounds b (.map ((es.push { key:=encM k,val:=z,born:=clock }).modify es.size fun e=>{ e with val:=v }) (clock+1)) },by simp[Instr.entryStore,MapKept.run_getObj_map hb1,asInt,asIntOf,hfind,run_setObj_map _ hb1,Result.andThen],But.of_set _ _ _,⟨_,_,(heap_set hb1).1,stamped_modify hs' _ _ (fun _ _=>rfl) (fun _ _ _=>rfl),?_⟩⟩
  rw[Array.toList_modify,Array.toList_push]
  have:(es.toList++[({ key:=encM k,val:=z,born:=clock }:MapEntry)]).modify es.size (fun e=>{ e with val:=v })=es.toList++[{ key:=encM k,val:=v,born:=clock }]:=by
   have hlen:es.size=es.toList.length:=by simp
   rw[hlen]
   exact modify_last _ _ _
  rw[this];simp[hl]
 ·rw[hk]at h4;cases h4
end
end Go.Proofs.YtkffhgiiejbnaaaGreat.Ms
namespace Go.Proofs.YtkffhgiiejbnaaaGreat.Tk
open Go.RowKit YtkffhgiiejbnaaaGreatW.PrintWords YtkffhgiiejbnaaaGreatW.PrintLast YtkffhgiiejbnaaaGreatW.PrintMore Rf Aid Mp
attribute [local go_sem] Aid.max_two Aid.min_two min2_mn max2_mx
structure Ent where
 f0:ByteArray
 f1:Int
 f2:Int
def kEnt:Kd Ent:=Kd.iso (Kd.pair Kd.string (Kd.pair (Kd.int .i64) (Kd.int .i64))) (fun x:Ent=>(x.f0,x.f1,x.f2))
theorem kEnt_open {w:World} {x:Ent} {cs:List Value} (h:kEnt.K w x cs):cs=[.string x.f0,.int .i64 x.f1,.int .i64 x.f2]:=by
 obtain⟨c1,c2,rfl,h1,c3,c4,rfl,h2,h3⟩:=h
 have h1:c1=[.string x.f0]:=h1
 have h2:c3=[.int .i64 x.f1]:=h2
 have h3:c4=[.int .i64 x.f2]:=h3
 rw[h1,h2,h3];rfl
theorem kEnt_mkM (w:World) (base:Nat) (ok:Nat->Prop) (x:Ent):kEnt.M w base ok x [.string x.f0,.int .i64 x.f1,.int .i64 x.f2]:=⟨[.string x.f0],[.int .i64 x.f1,.int .i64 x.f2],rfl,rfl,⟨[.int .i64 x.f1],[.int .i64 x.f2],rfl,rfl,rfl⟩⟩
theorem info_ent:(Tryz.prog.info? 223).map (fun i=>(i.zero,i.size,i.bytes))=some (some (.agg #[.string ⟨#[]⟩,.int .i64 0,.int .i64 0]),3,32):=Z15
theorem at_ent {w:World} {A:Option Addr} {n:Nat} {E:List Ent} (h:Kd.C kEnt w A n E) {i:Nat} (hi:i<E.length):∃ ad,A=some ad/\w.cell? (ad.add (i * 3))=some (.string (E[i]).f0)/\w.cell? ⟨(ad.add (i * 3)).block,(ad.add (i * 3)).off+1,none⟩=some (.int .i64 (E[i]).f1)/\w.cell? ⟨(ad.add (i * 3)).block,(ad.add (i * 3)).off+2,none⟩=some (.int .i64 (E[i]).f2):=by
 have hn:E.length=n:=h.1
 obtain⟨ad,c,e,_,hK,hc⟩:=Kd.C_get h ⟨⟨#[]⟩,0,0⟩ (i:Int) (Z1) (Z1)
 rw[Int.toNat_natCast,List.getD_eq_getElem?_getD,List.getElem?_eq_getElem hi]at hK
 have hc0:=kEnt_open hK
 subst hc0
 refine⟨ad,e,?_,?_,?_⟩
 ·exact hc 0 _ rfl
 ·rw[←add_field ad _ 1 (Z1)];exact hc 1 _ rfl
 ·rw[←add_field ad _ 2 (Z1)];exact hc 2 _ rfl
def idxB (E:List Ent) (s:ByteArray):Option Nat:=E.findIdx? (fun x=>decide (x.f0=s))
def bytl (E:List Ent):List (ByteArray × Value):=E.zipIdx.map (fun p=>(p.1.f0,.int .i64 (p.2:Int)))
def pairl (M:List Ent):List ((Int × Int) × Value):=(M.zipIdx 256).map (fun p=>((p.1.f1,p.1.f2),.int .i64 (p.2:Int)))
def pairP (E:List Ent) (a b:Int):Option Nat:=((E.drop 256).findIdx? (fun x=>decide ((x.f1,x.f2)=(a,b)))).map (fun i=>256+i)
theorem get_zipE {κ:Type} [DecidableEq κ] (f:Ent->κ) (k:κ):∀ (S:List Ent) (n:Nat),get? ((S.zipIdx n).map (fun p=>(f p.1,Value.int .i64 (p.2:Int)))) k=(S.findIdx? (fun x=>decide (f x=k))).map (fun i=>.int .i64 ((n+i:Nat):Int))
 | [],n=>rfl
 | x::S,n=>by
  rw[List.zipIdx_cons,List.map_cons,get?_cons,List.findIdx?_cons]
  by_cases h:f x=k
  ·simp[h]
  ·simp only[h,if_false,decide_false,Bool.false_eq_true]
   rw[get_zipE f k S (n+1),Option.map_map]
   congr 1;funext i;simp only[Function.comp];congr 2;omega
theorem get_bytl (E:List Ent) (s:ByteArray):get? (bytl E) s=(idxB E s).map (fun i=>.int .i64 (i:Int)):=by
 have:=get_zipE (fun x=>x.f0) s E 0
 simpa[bytl,idxB] using this
theorem get_pairl (E:List Ent) (a b:Int):get? (pairl (E.drop 256)) (a,b)=(pairP E a b).map (fun i=>.int .i64 (i:Int)):=by
 have:=get_zipE (fun x=>(x.f1,x.f2)) (a,b) (E.drop 256) 256
 unfold pairl pairP
 rw[this,Option.map_map]
 rfl
structure TabAt (w:World) (p:Nat) (E:List Ent):Prop where
 many:256≤E.length/\E.length≤1000
 small:∀ x∈E,1≤x.f0.size/\x.f0.size≤64
 rows:∃ A c,w.cell? ⟨p,0,none⟩=some (.slice A E.length c)/\E.length≤c/\Kd.C kEnt w A E.length E
 bytes:∃ b,w.cell? ⟨p,1,none⟩=some (.map (some b))/\MapIs encStr w b (bytl E)
 pairs:∃ b,w.cell? ⟨p,2,none⟩=some (.map (some b))/\Ms.MapIs w b (pairl (E.drop 256))
theorem TabAt.below {w w':World} {p:Nat} {E:List Ent} (h:TabAt w p E) (hb:Below w.heap.size w w'):TabAt w' p E:=by
 obtain⟨h1,h2,⟨A,c,r1,r2,r3⟩,⟨b,i1,i2⟩,⟨b',t1,t2⟩⟩:=h
 exact⟨h1,h2,⟨A,c,pw_cell_below hb r1,r2,Kd.C_below r3 hb⟩,⟨b,pw_cell_below hb i1,i2.of_block (hb.block _ i2.lt)⟩,⟨b',pw_cell_below hb t1,t2.of_block (hb.block _ t2.lt)⟩⟩
theorem len_raw (p n c:Nat) (A:Option Addr) (w:World) (hl:w.cell? ⟨p,0,none⟩=some (.slice A n c)):Calls Tryz.prog 121 #[.pointer (some ⟨p,0,none⟩)] w fun e w'=>e=.returned (.int .i64 n)/\w=w':=by
 go_enter Tryz.func121,Tryz.ntmps121
 go_wp2
 go_ret
 exact⟨rfl,rfl⟩
theorem has_raw (p n c:Nat) (A:Option Addr) (id:Int) (w:World) (hl:w.cell? ⟨p,0,none⟩=some (.slice A n c)):Calls Tryz.prog 135 #[.pointer (some ⟨p,0,none⟩),.int .i64 id] w fun e w'=>e=.returned (.bool (decide (0≤id/\id<(n:Int))))/\w=w':=by
 by_cases h0:0≤id
 ·by_cases h1:id<(n:Int)
  ·rw[decide_eq_true ⟨h0,h1⟩]
   go_enter Tryz.func135,Tryz.ntmps135
   go_wp2_with (go_at_call 121;refine(len_raw p n c A _ hl).mono ?_;rintro e w' ⟨rfl,rfl⟩)
   go_ret
   exact⟨rfl,rfl⟩
  ·rw[decide_eq_false (Z1)]
   have hb:decide (id<(n:Int))=false:=decide_eq_false h1
   go_enter Tryz.func135,Tryz.ntmps135
   go_wp2_with (go_at_call 121;refine(len_raw p n c A _ hl).mono ?_;rintro e w' ⟨rfl,rfl⟩)
   go_ret
   exact⟨rfl,rfl⟩
 ·rw[decide_eq_false (Z1)]
  go_enter Tryz.func135,Tryz.ntmps135
  go_wp2
  go_ret
  exact⟨rfl,rfl⟩
theorem bytes_yes {p:Nat} {E:List Ent} {w:World} (h:TabAt w p E) (i:Nat) (hi:i<E.length):Calls Tryz.prog 104 #[.pointer (some ⟨p,0,none⟩),.int .i64 i] w fun e w'=>e=.returned (.tuple #[.string (E[i]).f0,.bool true])/\Drawn w w':=by
 obtain⟨A,c,r1,r2,r3⟩:=h.rows
 obtain⟨ad,rfl,x0,_,_⟩:=at_ent r3 hi
 have HH:=As.mk (has_raw p E.length c (some ad) (i:Int) w r1)
 have i1:(i:Int)<(E.length:Int):=Z1
 rw[decide_eq_true ⟨Z1,i1⟩]at HH
 generalize (E[i]).f0=s at x0 ⊢
 clear h r3
 go_enter Tryz.func104,Tryz.ntmps104
 go_wp2_with (go_at_call 135;refine HH.out.mono ?_;rintro e w' ⟨rfl,rfl⟩)
 go_ret2
 exact⟨rfl,by first|exact Drawn.refl _|exact(Drawn.refl _).step _⟩
theorem bytes_no {p:Nat} {E:List Ent} {w:World} (h:TabAt w p E) (i:Int) (hi:¬ (0≤i/\i<(E.length:Int))):Calls Tryz.prog 104 #[.pointer (some ⟨p,0,none⟩),.int .i64 i] w fun e w'=>e=.returned (.tuple #[.string ⟨#[]⟩,.bool false])/\w=w':=by
 obtain⟨A,c,r1,r2,r3⟩:=h.rows
 have HH:=As.mk (has_raw p E.length c A i w r1)
 rw[decide_eq_false hi]at HH
 clear h r3
 go_enter Tryz.func104,Tryz.ntmps104
 go_wp2_with (go_at_call 135;refine HH.out.mono ?_;rintro e w' ⟨rfl,rfl⟩)
 go_ret2
 exact⟨rfl,rfl⟩
theorem pair_any {p:Nat} {E:List Ent} {w:World} (h:TabAt w p E) (a b:Int):Calls Tryz.prog 182 #[.pointer (some ⟨p,0,none⟩),.int .i64 a,.int .i64 b] w fun e w'=>e=.returned (.tuple #[.int .i64 (((pairP E a b).getD 0:Nat):Int),.bool (pairP E a b).isSome])/\w=w':=by
 obtain⟨bm,i1,i2⟩:=h.pairs
 have hl:=Ms.lookup_ok (mty:=225) (et:=3) Tryz.underlying225 i2 (a,b) (z:=.int .i64 0) (Z15)
 rw[get_pairl]at hl
 unfold Ms.encM at hl
 clear h i2
 cases hp:pairP E a b with
 | none =>
  rw[hp]at hl
  simp only[Option.map_none,Option.getD_none,Option.isSome_none]at hl
  clear hp
  go_enter Tryz.func182,Tryz.ntmps182
  go_wp2
  go_ret2
  exact⟨rfl,rfl⟩
 | some k =>
  rw[hp]at hl
  simp only[Option.map_some,Option.getD_some,Option.isSome_some]at hl
  clear hp
  go_enter Tryz.func182,Tryz.ntmps182
  go_wp2
  go_ret2
  exact⟨rfl,rfl⟩
end Go.Proofs.YtkffhgiiejbnaaaGreat.Tk
namespace Go.Proofs.YtkffhgiiejbnaaaGreat.Tk
open Go.RowKit YtkffhgiiejbnaaaGreatW.PrintWords YtkffhgiiejbnaaaGreatW.PrintLast YtkffhgiiejbnaaaGreatW.PrintMore Rf Aid Mp Hp
attribute [local go_sem] Aid.max_two Aid.min_two min2_mn max2_mx
structure TabRaw (w:World) (base p:Nat) (v:Value) (bm pm:Nat) (lg:Int) (R I P:List Ent):Prop where
 lp:base≤p
 lb:base≤bm
 lm:base≤pm
 ne:bm≠pm
 blk:w.heap[p]?=some (.cells #[v,.map (some bm),.map (some pm),.int .i64 lg] 227 (0,0))
 rows:Kd.R kEnt 223 w base (fun _=>True) v R
 bytes:MapIs encStr w bm (bytl I)
 pairs:Ms.MapIs w pm (pairl P)
theorem TabRaw.below {w w':World} {base p bm pm:Nat} {v:Value} {lg:Int} {R I P:List Ent} (h:TabRaw w base p v bm pm lg R I P) (hb:Below w.heap.size w w'):TabRaw w' base p v bm pm lg R I P :=
 ⟨h.lp,h.lb,h.lm,h.ne,(hb.block _ (blk_lt h.blk)).trans h.blk,Kd.R_below h.rows hb,h.bytes.of_block (hb.block _ h.bytes.lt),h.pairs.of_block (hb.block _ h.pairs.lt)⟩
theorem TabRaw.npb {w:World} {base p bm pm:Nat} {v:Value} {lg:Int} {R I P:List Ent} (h:TabRaw w base p v bm pm lg R I P):p≠bm:=fun e=>by
 obtain⟨es,cl,he,_⟩:=h.bytes
 rw[←e,h.blk]at he;cases he
theorem TabRaw.npm {w:World} {base p bm pm:Nat} {v:Value} {lg:Int} {R I P:List Ent} (h:TabRaw w base p v bm pm lg R I P):p≠pm:=fun e=>by
 obtain⟨es,cl,he,_⟩:=h.pairs
 rw[←e,h.blk]at he;cases he
theorem TabRaw.putB {w w':World} {base p bm pm:Nat} {v:Value} {lg:Int} {R I I' P:List Ent} (h:TabRaw w base p v bm pm lg R I P) (hb:But bm w w') (hm:MapIs encStr w' bm (bytl I')):TabRaw w' base p v bm pm lg R I' P:=by
 obtain⟨es,cl,he,_⟩:=h.bytes
 exact⟨h.lp,h.lb,h.lm,h.ne,(hb.block _ h.npb).trans h.blk,R_but h.rows hb he,hm,h.pairs.of_block (hb.block _ (Ne.symm h.ne))⟩
theorem TabRaw.putP {w w':World} {base p bm pm:Nat} {v:Value} {lg:Int} {R I P P':List Ent} (h:TabRaw w base p v bm pm lg R I P) (hb:But pm w w') (hm:Ms.MapIs w' pm (pairl P')):TabRaw w' base p v bm pm lg R I P':=by
 obtain⟨es,cl,he,_⟩:=h.pairs
 exact⟨h.lp,h.lb,h.lm,h.ne,(hb.block _ h.npm).trans h.blk,R_but h.rows hb he,h.bytes.of_block (hb.block _ h.ne),hm⟩
theorem TabRaw.told {w w':World} {base p bm pm:Nat} {v v1:Value} {lg:Int} {R R' I P:List Ent} (h:TabRaw w base p v bm pm lg R I P) (hg:w.grownBy w' v.ownBlock) (hr:Kd.R kEnt 223 w' base (fun _=>True) v1 R'):TabRaw (w'.setCell ⟨p,0,none⟩ v1) base p v1 bm pm lg R' I P:=by
 have hp:=blk_grown h.blk hg (Kd.R_ne h.rows h.blk (Z31))
 have hnb:some bm≠v.ownBlock:=fun he=>by
  obtain⟨cells,hc⟩:=Kd.R_typed h.rows bm he.symm
  obtain⟨es,cl,hm,_⟩:=h.bytes
  rw[hm]at hc;cases hc
 have hnp:some pm≠v.ownBlock:=fun he=>by
  obtain⟨cells,hc⟩:=Kd.R_typed h.rows pm he.symm
  obtain⟨es,cl,hm,_⟩:=h.pairs
  rw[hm]at hc;cases hc
 exact⟨h.lp,h.lb,h.lm,h.ne,blk_set hp 0 v1,Kd.R_set hr hp (Z31) 0 v1,(h.bytes.of_block (hg.block _ h.bytes.lt hnb)).of_block (Below.heap_setCell w' ⟨p,0,none⟩ v1 bm (Ne.symm h.npb)),(h.pairs.of_block (hg.block _ h.pairs.lt hnp)).of_block (Below.heap_setCell w' ⟨p,0,none⟩ v1 pm (Ne.symm h.npm))⟩
theorem TabRaw.long {w:World} {base p bm pm:Nat} {v:Value} {lg:Int} {R I P:List Ent} (h:TabRaw w base p v bm pm lg R I P) (lg':Int):TabRaw (w.setCell ⟨p,3,none⟩ (.int .i64 lg')) base p v bm pm lg' R I P :=
 ⟨h.lp,h.lb,h.lm,h.ne,blk_set h.blk 3 (.int .i64 lg'),Kd.R_set h.rows h.blk (Z31) 3 _,h.bytes.of_block (Below.heap_setCell w ⟨p,3,none⟩ _ bm (Ne.symm h.npb)),h.pairs.of_block (Below.heap_setCell w ⟨p,3,none⟩ _ pm (Ne.symm h.npm))⟩
theorem TabRaw.c0 {w:World} {base p bm pm:Nat} {v:Value} {lg:Int} {R I P:List Ent} (h:TabRaw w base p v bm pm lg R I P):w.cell? ⟨p,0,none⟩=some v:=Z64
theorem TabRaw.c1 {w:World} {base p bm pm:Nat} {v:Value} {lg:Int} {R I P:List Ent} (h:TabRaw w base p v bm pm lg R I P):w.cell? ⟨p,1,none⟩=some (.map (some bm)):=Z64
theorem TabRaw.c2 {w:World} {base p bm pm:Nat} {v:Value} {lg:Int} {R I P:List Ent} (h:TabRaw w base p v bm pm lg R I P):w.cell? ⟨p,2,none⟩=some (.map (some pm)):=Z64
theorem TabRaw.c3 {w:World} {base p bm pm:Nat} {v:Value} {lg:Int} {R I P:List Ent} (h:TabRaw w base p v bm pm lg R I P):w.cell? ⟨p,3,none⟩=some (.int .i64 lg):=Z64
def byteE (i:Nat):Ent:=⟨⟨#[UInt8.ofNat i]⟩,-1,-1⟩
def byteL (n:Nat):List Ent:=(List.range n).map byteE
theorem byteL_len (n:Nat):(byteL n).length=n:=by simp[byteL]
theorem byteL_succ (n:Nat):byteL (n+1)=byteL n++[byteE n]:=by simp[byteL,List.range_succ]
theorem byteE_inj {i j:Nat} (hi:i<256) (hj:j<256) (h:(byteE i).f0=(byteE j).f0):i=j:=by
 simp[byteE]at h
 have:=congrArg UInt8.toNat h
 simp at this
 omega
theorem idxB_byteL (n:Nat) (hn:n<256):idxB (byteL n) (byteE n).f0=none:=by
 unfold idxB
 rw[List.findIdx?_eq_none_iff]
 intro x hx
 unfold byteL at hx
 obtain⟨i,hi,rfl⟩:=List.mem_map.1 hx
 have:=List.mem_range.1 hi
 simp only[decide_eq_true_eq,Bool.not_eq_true,decide_eq_false_iff_not]
 intro e
 have:=byteE_inj (Z1) hn e
 omega
theorem bytl_snoc (E:List Ent) (x:Ent):bytl (E++[x])=bytl E++[(x.f0,.int .i64 (E.length:Int))]:=by simp[bytl,List.zipIdx_append]
theorem put_bytl (E:List Ent) (x:Ent) (h:idxB E x.f0=none):put (bytl E) x.f0 (.int .i64 (E.length:Int))=bytl (E++[x]):=by
 rw[put_new (by rw[get_bytl,h];rfl),bytl_snoc]
theorem begin0 (w:World):TabRaw (((w.alloc (.map #[] 0)).alloc (.map #[] 0)).alloc (.cells #[.slice none 0 0,.map (some w.heap.size),.map (some (w.heap.size+1)),.int .i64 1] 227)) w.heap.size (w.heap.size+2) (.slice none 0 0) w.heap.size (w.heap.size+1) 1 [] [] []:=by
 obtain⟨h0,h1,h2⟩:=push3 w.heap (.map #[] 0) (.map #[] 0) (.cells #[.slice none 0 0,.map (some w.heap.size),.map (some (w.heap.size+1)),.int .i64 1] 227 (0,0))
 exact⟨Z1,Z1,Z1,Z1,h2,Kd.R_nil _ _ _ _ _,⟨#[],0,h0,MapKept.stamped_empty 0,rfl⟩,⟨#[],0,h1,MapKept.stamped_empty 0,rfl⟩⟩
end Go.Proofs.YtkffhgiiejbnaaaGreat.Tk
