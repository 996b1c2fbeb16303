/-
  No cell of these rows narrows 'for every input' (looked for: loops, veiled, ifaces, maps, wideKeys, modest, calm, conditions, laid).
  DERIVED. THE GIVEN ROWS OF THIS SEAT. 4 by the template 'for every input the law returns true; each argument reads behind the call as it read before'; 0 by the template 'total and deterministic' (their statements: YthcpdiknejblnaaTotals.lean).
  GIVEN WITH THE SEED: the statements are not yours to turn. If you find one false, say at which input.
  Laid BY PROGRAM, IN A SANDBOX (cutbox-rows.mjs): the forced cells as the released guide's own fill.sh prints them over the translation b27fc8f832cac537… (all of the seat's roots in one cut). By AI agents, Wed Nov 11 2026. No macro, syntax, notation, axiom, sorry.
-/
import Derived.Test.YthcpdiknejblnaaChecked
import GoSem.Claim
import GoSem.ClaimJoined
import GoSem.ClaimMapViews
import Derived.JoinedTies
import Derived.KernelRfl
namespace Go.Proofs.Ythcpdiknejblnaa
/- THE CELL 'sum', in the pinned program and in every row, IS THE sha256 OF THE DUMP (.gsa) THAT YthcpdiknejblnaaProg.lean LOADS. Nothing in Lean hashes anything: it is a label: what it is worth is what the hold of that sum in a sandbox is worth. -/
noncomputable def Try.pinned : Pinned := { name := "ythcpdiknejblnaa", sum := "b27fc8f832cac537e6c62c1f4b07223537772608bb7118f7efdbefd5b052b7e5", checked := Try.checked }
namespace Rows
def none {H : Type} : Left H := { results := [], args := [] }

/-- 'ligaturelaw29.TallyTops': WHATEVER THE INPUT: true; the input reads as it did. -/
def tallyTopsSpec : ChangeSpec := { name := "tallyTops", fn := fun _ => fun
  | [d1, d2] => { results := [.lit (.bool true)], args := [d1, d2] }
  | _ => none }
def tallyTopsRow : OpenClaim := { program := "ythcpdiknejblnaa", sum := "b27fc8f832cac537e6c62c1f4b07223537772608bb7118f7efdbefd5b052b7e5", func := "ligature/ligaturelaw29.TallyTops", spec := "tallyTops", unfollowed := true, recurses := true, plainKeys := false, apart := false }
def TallyTopsSaid : Prop := tallyTopsRow.holds Try.pinned (OpenSpec.ofChange tallyTopsSpec)

/-- ITS FALSE NEIGHBOUR: 'it returns false'. Refute it at one input. -/
def tallyTopsWrong : ChangeSpec := { name := "tallyTops", fn := fun _ => fun
  | [d1, d2] => { results := [.lit (.bool false)], args := [d1, d2] }
  | _ => none }
def TallyTopsWrongFalsely : Prop := tallyTopsRow.holds Try.pinned (OpenSpec.ofChange tallyTopsWrong)

/-- 'ligaturelaw29.TallyMerges': WHATEVER THE INPUT: true; the input reads as it did. -/
def tallyMergesSpec : ChangeSpec := { name := "tallyMerges", fn := fun _ => fun
  | [d1, d2, d3, d4] => { results := [.lit (.bool true)], args := [d1, d2, d3, d4] }
  | _ => none }
def tallyMergesRow : OpenClaim := { program := "ythcpdiknejblnaa", sum := "b27fc8f832cac537e6c62c1f4b07223537772608bb7118f7efdbefd5b052b7e5", func := "ligature/ligaturelaw29.TallyMerges", spec := "tallyMerges", inPlace := ["maps.clone"], unfollowed := true, recurses := true, plainKeys := false, apart := false }
def TallyMergesSaid : Prop := tallyMergesRow.holds Try.pinned (OpenSpec.ofChange tallyMergesSpec)

/-- ITS FALSE NEIGHBOUR: 'it returns false'. Refute it at one input. -/
def tallyMergesWrong : ChangeSpec := { name := "tallyMerges", fn := fun _ => fun
  | [d1, d2, d3, d4] => { results := [.lit (.bool false)], args := [d1, d2, d3, d4] }
  | _ => none }
def TallyMergesWrongFalsely : Prop := tallyMergesRow.holds Try.pinned (OpenSpec.ofChange tallyMergesWrong)

/-- 'ligaturelaw29.TallyCounts': WHATEVER THE INPUT: true; the input reads as it did. -/
def tallyCountsSpec : ChangeSpec := { name := "tallyCounts", fn := fun _ => fun
  | [d1, d2, d3, d4] => { results := [.lit (.bool true)], args := [d1, d2, d3, d4] }
  | _ => none }
def tallyCountsRow : OpenClaim := { program := "ythcpdiknejblnaa", sum := "b27fc8f832cac537e6c62c1f4b07223537772608bb7118f7efdbefd5b052b7e5", func := "ligature/ligaturelaw29.TallyCounts", spec := "tallyCounts", unfollowed := true, recurses := true, plainKeys := false, apart := false }
def TallyCountsSaid : Prop := tallyCountsRow.holds Try.pinned (OpenSpec.ofChange tallyCountsSpec)

/-- ITS FALSE NEIGHBOUR: 'it returns false'. Refute it at one input. -/
def tallyCountsWrong : ChangeSpec := { name := "tallyCounts", fn := fun _ => fun
  | [d1, d2, d3, d4] => { results := [.lit (.bool false)], args := [d1, d2, d3, d4] }
  | _ => none }
def TallyCountsWrongFalsely : Prop := tallyCountsRow.holds Try.pinned (OpenSpec.ofChange tallyCountsWrong)

/-- 'ligaturelaw29.TallyNone': WHATEVER THE INPUT: true; the input reads as it did. -/
def tallyNoneSpec : ChangeSpec := { name := "tallyNone", fn := fun _ => fun
  | [d1, d2] => { results := [.lit (.bool true)], args := [d1, d2] }
  | _ => none }
def tallyNoneRow : OpenClaim := { program := "ythcpdiknejblnaa", sum := "b27fc8f832cac537e6c62c1f4b07223537772608bb7118f7efdbefd5b052b7e5", func := "ligature/ligaturelaw29.TallyNone", spec := "tallyNone", inPlace := ["maps.clone"], unfollowed := true, recurses := true, plainKeys := false, apart := false }
def TallyNoneSaid : Prop := tallyNoneRow.holds Try.pinned (OpenSpec.ofChange tallyNoneSpec)

/-- ITS FALSE NEIGHBOUR: 'it returns false'. Refute it at one input. -/
def tallyNoneWrong : ChangeSpec := { name := "tallyNone", fn := fun _ => fun
  | [d1, d2] => { results := [.lit (.bool false)], args := [d1, d2] }
  | _ => none }
def TallyNoneWrongFalsely : Prop := tallyNoneRow.holds Try.pinned (OpenSpec.ofChange tallyNoneWrong)

/- THE SECOND FORM. 'bulk': how many values and letters a reading holds, each counted each time it is reached (what is shared counts as often as it is met; a slice's spare places count too). A statement '..UptoSaid' is the law's where the arguments, and the package variables that the reading takes, are together of bulk at most 1048576: NARROWER than '..Said'. Prove '..Said' where nothing that the law and all that it calls make is longer than what came in: it says more and counts as full. Else prove '..UptoSaid'. A law counts once. -/
mutual
def uptoBulk {H : Type} : DataW H → Nat
  | .lit (.string bytes) => bytes.length + 1
  | .lit _ => 1
  | .nil => 1
  | .ptr d => uptoBulk d + 1
  | .slice elems spare => uptoBulkAll elems + uptoBulkAll spare + 1
  | .agg parts => uptoBulkAll parts + 1
  | .iface _ d => uptoBulk d + 1
  | .map entries => uptoBulkEntries entries + 1
  | .held _ => 1
def uptoBulkAll {H : Type} : List (DataW H) → Nat
  | [] => 0
  | d :: r => uptoBulk d + uptoBulkAll r
def uptoBulkEntries {H : Type} : List (Lit × DataW H) → Nat
  | [] => 0
  | x :: r => uptoBulkEntry x + uptoBulkEntries r
def uptoBulkEntry {H : Type} : Lit × DataW H → Nat
  | (.string bytes, d) => bytes.length + uptoBulk d + 1
  | (_, d) => uptoBulk d + 1
 end
def uptoSmall : (H : Type) → List (DataW H) → Bool := fun _ ds => decide (uptoBulkAll ds ≤ 1048576)
def OpenSpec.upto (s : _root_.Go.ChangeSpec) : _root_.Go.OpenSpec := { _root_.Go.OpenSpec.ofChange s with cond := some uptoSmall }

/-- 'ligaturelaw29.TallyTops', WHERE WHAT IT READS IS OF BULK AT MOST 1048576: true; the input reads as it did. -/
def tallyTopsUptoRow : OpenClaim := { program := "ythcpdiknejblnaa", sum := "b27fc8f832cac537e6c62c1f4b07223537772608bb7118f7efdbefd5b052b7e5", func := "ligature/ligaturelaw29.TallyTops", spec := "tallyTops", unfollowed := true, recurses := true, plainKeys := false, apart := false, narrowed := true }
def TallyTopsUptoSaid : Prop := tallyTopsUptoRow.holds Try.pinned (OpenSpec.upto tallyTopsSpec)

/-- 'ligaturelaw29.TallyMerges', WHERE WHAT IT READS IS OF BULK AT MOST 1048576: true; the input reads as it did. -/
def tallyMergesUptoRow : OpenClaim := { program := "ythcpdiknejblnaa", sum := "b27fc8f832cac537e6c62c1f4b07223537772608bb7118f7efdbefd5b052b7e5", func := "ligature/ligaturelaw29.TallyMerges", spec := "tallyMerges", inPlace := ["maps.clone"], unfollowed := true, recurses := true, plainKeys := false, apart := false, narrowed := true }
def TallyMergesUptoSaid : Prop := tallyMergesUptoRow.holds Try.pinned (OpenSpec.upto tallyMergesSpec)

/-- 'ligaturelaw29.TallyCounts', WHERE WHAT IT READS IS OF BULK AT MOST 1048576: true; the input reads as it did. -/
def tallyCountsUptoRow : OpenClaim := { program := "ythcpdiknejblnaa", sum := "b27fc8f832cac537e6c62c1f4b07223537772608bb7118f7efdbefd5b052b7e5", func := "ligature/ligaturelaw29.TallyCounts", spec := "tallyCounts", unfollowed := true, recurses := true, plainKeys := false, apart := false, narrowed := true }
def TallyCountsUptoSaid : Prop := tallyCountsUptoRow.holds Try.pinned (OpenSpec.upto tallyCountsSpec)

/-- 'ligaturelaw29.TallyNone', WHERE WHAT IT READS IS OF BULK AT MOST 1048576: true; the input reads as it did. -/
def tallyNoneUptoRow : OpenClaim := { program := "ythcpdiknejblnaa", sum := "b27fc8f832cac537e6c62c1f4b07223537772608bb7118f7efdbefd5b052b7e5", func := "ligature/ligaturelaw29.TallyNone", spec := "tallyNone", inPlace := ["maps.clone"], unfollowed := true, recurses := true, plainKeys := false, apart := false, narrowed := true }
def TallyNoneUptoSaid : Prop := tallyNoneUptoRow.holds Try.pinned (OpenSpec.upto tallyNoneSpec)

end Rows
end Go.Proofs.Ythcpdiknejblnaa
