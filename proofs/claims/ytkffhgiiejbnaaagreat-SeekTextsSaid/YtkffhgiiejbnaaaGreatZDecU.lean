import Derived.BigQuiet
import Derived.Test.YtkffhgiiejbnaaaGreatZDecC
import Derived.Test.YtkffhgiiejbnaaaGreatZRefI
import Derived.Test.YtkffhgiiejbnaaaGreatZDecN
import Derived.Test.YtkffhgiiejbnaaaGreatZHeldL
import Derived.Test.YtkffhgiiejbnaaaGreatZ03
set_option maxHeartbeats 400000
set_option linter.unusedVariables false
set_option linter.unusedSimpArgs false
namespace Go.Proofs.YtkffhgiiejbnaaaGreat.Dc
open Go.Shelf Go.RowKit YtkffhgiiejbnaaaGreatW.PrintWords YtkffhgiiejbnaaaGreatW.PrintLast YtkffhgiiejbnaaaGreatW.PrintMore Rf Aid Mp Hp Tk Vc
structure DecSh (w:World) (d v:Nat) (told:Nat):Prop where
 blk:w.heap[d]?=some (.cells #[.string ⟨#[]⟩,.pointer (some ⟨v,0,none⟩),.bool true,.int .i64 (told:Int)] 155 (0,0))
theorem DecSh.below {w w':World} {d v told:Nat} (h:DecSh w d v told) (hb:Below w.heap.size w w'):DecSh w' d v told:=⟨(hb.block _ (blk_lt h.blk)).trans h.blk⟩
end Go.Proofs.YtkffhgiiejbnaaaGreat.Dc
namespace Go.Proofs.YtkffhgiiejbnaaaGreat.Rt
open Go.RowKit YtkffhgiiejbnaaaGreatW.PrintWords YtkffhgiiejbnaaaGreatW.PrintLast YtkffhgiiejbnaaaGreatW.PrintMore Rf Aid Mp Hp Tk Vc Dc
theorem VocAt.good {w:World} {v:Nat} {s:Sp} (h:VocAt w v s):Mk.GoodS s.X:=by
 obtain⟨_,_,w0,pt,pb,pm,h1,h2,h3,h4,h5,h6,h7,h8⟩:=h
 exact h5.goodS
end Go.Proofs.YtkffhgiiejbnaaaGreat.Rt
