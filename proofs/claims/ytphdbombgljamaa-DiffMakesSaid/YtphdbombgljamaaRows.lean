/-
  No cell of these rows narrows 'for every input' (looked for: loops, veiled, ifaces, maps, wideKeys, modest, calm, conditions, laid).
  DERIVED. THE GIVEN ROWS OF THIS SEAT. 8 by the template 'for every input the law returns true; each argument reads behind the call as it read before'; 0 by the template 'total and deterministic' (their statements: YtphdbombgljamaaTotals.lean).
  GIVEN WITH THE SEED: the statements are not yours to turn. If you find one false, say at which input.
  Laid BY PROGRAM, IN A SANDBOX (cutbox-rows.mjs): the forced cells as the released guide's own fill.sh prints them over the translation fd80d82bcc60136d… (all of the seat's roots in one cut). By AI agents, Wed Nov 11 2026. No macro, syntax, notation, axiom, sorry.
-/
import Derived.Test.YtphdbombgljamaaChecked
import GoSem.Claim
import GoSem.ClaimJoined
import GoSem.ClaimMapViews
import Derived.JoinedTies
import Derived.KernelRfl
namespace Go.Proofs.Ytphdbombgljamaa
/- THE CELL 'sum', in the pinned program and in every row, IS THE sha256 OF THE DUMP (.gsa) THAT YtphdbombgljamaaProg.lean LOADS. Nothing in Lean hashes anything: it is a label: what it is worth is what the hold of that sum in a sandbox is worth. -/
noncomputable def Try.pinned : Pinned := { name := "ytphdbombgljamaa", sum := "fd80d82bcc60136d76427691d2e9e7f6570842b4d0331c34fdfc9b4ef2f80eb0", checked := Try.checked }
namespace Rows
def none {H : Type} : Left H := { results := [], args := [] }

/-- 'ligaturelaw09.MarkParses': WHATEVER THE INPUT: true; the input reads as it did. -/
def markParsesSpec : ChangeSpec := { name := "markParses", fn := fun _ => fun
  | [d1, d2] => { results := [.lit (.bool true)], args := [d1, d2] }
  | _ => none }
def markParsesRow : OpenClaim := { program := "ytphdbombgljamaa", sum := "fd80d82bcc60136d76427691d2e9e7f6570842b4d0331c34fdfc9b4ef2f80eb0", func := "ligature/ligaturelaw09.MarkParses", spec := "markParses", apart := false }
def MarkParsesSaid : Prop := markParsesRow.holds Try.pinned (OpenSpec.ofChange markParsesSpec)

/-- ITS FALSE NEIGHBOUR: 'it returns false'. Refute it at one input. -/
def markParsesWrong : ChangeSpec := { name := "markParses", fn := fun _ => fun
  | [d1, d2] => { results := [.lit (.bool false)], args := [d1, d2] }
  | _ => none }
def MarkParsesWrongFalsely : Prop := markParsesRow.holds Try.pinned (OpenSpec.ofChange markParsesWrong)

/-- 'ligaturelaw31.DiffWindows': WHATEVER THE INPUT: true; the input reads as it did. -/
def diffWindowsSpec : ChangeSpec := { name := "diffWindows", fn := fun _ => fun
  | [d1, d2] => { results := [.lit (.bool true)], args := [d1, d2] }
  | _ => none }
def diffWindowsRow : OpenClaim := { program := "ytphdbombgljamaa", sum := "fd80d82bcc60136d76427691d2e9e7f6570842b4d0331c34fdfc9b4ef2f80eb0", func := "ligature/ligaturelaw31.DiffWindows", spec := "diffWindows", unfollowed := true, recurses := true, apart := false }
def DiffWindowsSaid : Prop := diffWindowsRow.holds Try.pinned (OpenSpec.ofChange diffWindowsSpec)

/-- ITS FALSE NEIGHBOUR: 'it returns false'. Refute it at one input. -/
def diffWindowsWrong : ChangeSpec := { name := "diffWindows", fn := fun _ => fun
  | [d1, d2] => { results := [.lit (.bool false)], args := [d1, d2] }
  | _ => none }
def DiffWindowsWrongFalsely : Prop := diffWindowsRow.holds Try.pinned (OpenSpec.ofChange diffWindowsWrong)

/-- 'ligaturelaw31.DiffStays': WHATEVER THE INPUT: true; the input reads as it did. -/
def diffStaysSpec : ChangeSpec := { name := "diffStays", fn := fun _ => fun
  | [d1, d2] => { results := [.lit (.bool true)], args := [d1, d2] }
  | _ => none }
def diffStaysRow : OpenClaim := { program := "ytphdbombgljamaa", sum := "fd80d82bcc60136d76427691d2e9e7f6570842b4d0331c34fdfc9b4ef2f80eb0", func := "ligature/ligaturelaw31.DiffStays", spec := "diffStays", unfollowed := true, recurses := true, apart := false }
def DiffStaysSaid : Prop := diffStaysRow.holds Try.pinned (OpenSpec.ofChange diffStaysSpec)

/-- ITS FALSE NEIGHBOUR: 'it returns false'. Refute it at one input. -/
def diffStaysWrong : ChangeSpec := { name := "diffStays", fn := fun _ => fun
  | [d1, d2] => { results := [.lit (.bool false)], args := [d1, d2] }
  | _ => none }
def DiffStaysWrongFalsely : Prop := diffStaysRow.holds Try.pinned (OpenSpec.ofChange diffStaysWrong)

/-- 'ligaturelaw09.MarkNews': WHATEVER THE INPUT: true; the input reads as it did. -/
def markNewsSpec : ChangeSpec := { name := "markNews", fn := fun _ => fun
  | [d1, d2, d3] => { results := [.lit (.bool true)], args := [d1, d2, d3] }
  | _ => none }
def markNewsRow : OpenClaim := { program := "ytphdbombgljamaa", sum := "fd80d82bcc60136d76427691d2e9e7f6570842b4d0331c34fdfc9b4ef2f80eb0", func := "ligature/ligaturelaw09.MarkNews", spec := "markNews", apart := false }
def MarkNewsSaid : Prop := markNewsRow.holds Try.pinned (OpenSpec.ofChange markNewsSpec)

/-- ITS FALSE NEIGHBOUR: 'it returns false'. Refute it at one input. -/
def markNewsWrong : ChangeSpec := { name := "markNews", fn := fun _ => fun
  | [d1, d2, d3] => { results := [.lit (.bool false)], args := [d1, d2, d3] }
  | _ => none }
def MarkNewsWrongFalsely : Prop := markNewsRow.holds Try.pinned (OpenSpec.ofChange markNewsWrong)

/-- 'ligaturelaw09.MarkRenders': WHATEVER THE INPUT: true; the input reads as it did. -/
def markRendersSpec : ChangeSpec := { name := "markRenders", fn := fun _ => fun
  | [d1, d2] => { results := [.lit (.bool true)], args := [d1, d2] }
  | _ => none }
def markRendersRow : OpenClaim := { program := "ytphdbombgljamaa", sum := "fd80d82bcc60136d76427691d2e9e7f6570842b4d0331c34fdfc9b4ef2f80eb0", func := "ligature/ligaturelaw09.MarkRenders", spec := "markRenders", inPlace := ["internal/abi.NoEscape"], apart := false }
def MarkRendersSaid : Prop := markRendersRow.holds Try.pinned (OpenSpec.ofChange markRendersSpec)

/-- ITS FALSE NEIGHBOUR: 'it returns false'. Refute it at one input. -/
def markRendersWrong : ChangeSpec := { name := "markRenders", fn := fun _ => fun
  | [d1, d2] => { results := [.lit (.bool false)], args := [d1, d2] }
  | _ => none }
def MarkRendersWrongFalsely : Prop := markRendersRow.holds Try.pinned (OpenSpec.ofChange markRendersWrong)

/-- 'ligaturelaw09.MarkBack': WHATEVER THE INPUT: true; the input reads as it did. -/
def markBackSpec : ChangeSpec := { name := "markBack", fn := fun _ => fun
  | [d1, d2] => { results := [.lit (.bool true)], args := [d1, d2] }
  | _ => none }
def markBackRow : OpenClaim := { program := "ytphdbombgljamaa", sum := "fd80d82bcc60136d76427691d2e9e7f6570842b4d0331c34fdfc9b4ef2f80eb0", func := "ligature/ligaturelaw09.MarkBack", spec := "markBack", inPlace := ["internal/abi.NoEscape"], apart := false }
def MarkBackSaid : Prop := markBackRow.holds Try.pinned (OpenSpec.ofChange markBackSpec)

/-- ITS FALSE NEIGHBOUR: 'it returns false'. Refute it at one input. -/
def markBackWrong : ChangeSpec := { name := "markBack", fn := fun _ => fun
  | [d1, d2] => { results := [.lit (.bool false)], args := [d1, d2] }
  | _ => none }
def MarkBackWrongFalsely : Prop := markBackRow.holds Try.pinned (OpenSpec.ofChange markBackWrong)

/-- 'ligaturelaw31.DiffMakes': WHATEVER THE INPUT: true; the input reads as it did. -/
def diffMakesSpec : ChangeSpec := { name := "diffMakes", fn := fun _ => fun
  | [d1, d2] => { results := [.lit (.bool true)], args := [d1, d2] }
  | _ => none }
def diffMakesRow : OpenClaim := { program := "ytphdbombgljamaa", sum := "fd80d82bcc60136d76427691d2e9e7f6570842b4d0331c34fdfc9b4ef2f80eb0", func := "ligature/ligaturelaw31.DiffMakes", spec := "diffMakes", unfollowed := true, recurses := true, apart := false }
def DiffMakesSaid : Prop := diffMakesRow.holds Try.pinned (OpenSpec.ofChange diffMakesSpec)

/-- ITS FALSE NEIGHBOUR: 'it returns false'. Refute it at one input. -/
def diffMakesWrong : ChangeSpec := { name := "diffMakes", fn := fun _ => fun
  | [d1, d2] => { results := [.lit (.bool false)], args := [d1, d2] }
  | _ => none }
def DiffMakesWrongFalsely : Prop := diffMakesRow.holds Try.pinned (OpenSpec.ofChange diffMakesWrong)

/-- 'ligaturelaw09.MarkNone': WHATEVER THE INPUT: true; the input reads as it did. -/
def markNoneSpec : ChangeSpec := { name := "markNone", fn := fun _ => fun
  | [d1, d2] => { results := [.lit (.bool true)], args := [d1, d2] }
  | _ => none }
def markNoneRow : OpenClaim := { program := "ytphdbombgljamaa", sum := "fd80d82bcc60136d76427691d2e9e7f6570842b4d0331c34fdfc9b4ef2f80eb0", func := "ligature/ligaturelaw09.MarkNone", spec := "markNone", inPlace := ["internal/abi.NoEscape"], apart := false }
def MarkNoneSaid : Prop := markNoneRow.holds Try.pinned (OpenSpec.ofChange markNoneSpec)

/-- ITS FALSE NEIGHBOUR: 'it returns false'. Refute it at one input. -/
def markNoneWrong : ChangeSpec := { name := "markNone", fn := fun _ => fun
  | [d1, d2] => { results := [.lit (.bool false)], args := [d1, d2] }
  | _ => none }
def MarkNoneWrongFalsely : Prop := markNoneRow.holds Try.pinned (OpenSpec.ofChange markNoneWrong)

/- THE SECOND FORM. 'bulk': how many values and letters a reading holds, each counted each time it is reached (what is shared counts as often as it is met; a slice's spare places count too). A statement '..UptoSaid' is the law's where the arguments, and the package variables that the reading takes, are together of bulk at most 1048576: NARROWER than '..Said'. Prove '..Said' where nothing that the law and all that it calls make is longer than what came in: it says more and counts as full. Else prove '..UptoSaid'. A law counts once. -/
mutual
def uptoBulk {H : Type} : DataW H → Nat
  | .lit (.string bytes) => bytes.length + 1
  | .lit _ => 1
  | .nil => 1
  | .ptr d => uptoBulk d + 1
  | .slice elems spare => uptoBulkAll elems + uptoBulkAll spare + 1
  | .agg parts => uptoBulkAll parts + 1
  | .iface _ d => uptoBulk d + 1
  | .map entries => uptoBulkEntries entries + 1
  | .held _ => 1
def uptoBulkAll {H : Type} : List (DataW H) → Nat
  | [] => 0
  | d :: r => uptoBulk d + uptoBulkAll r
def uptoBulkEntries {H : Type} : List (Lit × DataW H) → Nat
  | [] => 0
  | x :: r => uptoBulkEntry x + uptoBulkEntries r
def uptoBulkEntry {H : Type} : Lit × DataW H → Nat
  | (.string bytes, d) => bytes.length + uptoBulk d + 1
  | (_, d) => uptoBulk d + 1
 end
def uptoSmall : (H : Type) → List (DataW H) → Bool := fun _ ds => decide (uptoBulkAll ds ≤ 1048576)
def OpenSpec.upto (s : _root_.Go.ChangeSpec) : _root_.Go.OpenSpec := { _root_.Go.OpenSpec.ofChange s with cond := some uptoSmall }

/-- 'ligaturelaw09.MarkParses', WHERE WHAT IT READS IS OF BULK AT MOST 1048576: true; the input reads as it did. -/
def markParsesUptoRow : OpenClaim := { program := "ytphdbombgljamaa", sum := "fd80d82bcc60136d76427691d2e9e7f6570842b4d0331c34fdfc9b4ef2f80eb0", func := "ligature/ligaturelaw09.MarkParses", spec := "markParses", apart := false, narrowed := true }
def MarkParsesUptoSaid : Prop := markParsesUptoRow.holds Try.pinned (OpenSpec.upto markParsesSpec)

/-- 'ligaturelaw31.DiffWindows', WHERE WHAT IT READS IS OF BULK AT MOST 1048576: true; the input reads as it did. -/
def diffWindowsUptoRow : OpenClaim := { program := "ytphdbombgljamaa", sum := "fd80d82bcc60136d76427691d2e9e7f6570842b4d0331c34fdfc9b4ef2f80eb0", func := "ligature/ligaturelaw31.DiffWindows", spec := "diffWindows", unfollowed := true, recurses := true, apart := false, narrowed := true }
def DiffWindowsUptoSaid : Prop := diffWindowsUptoRow.holds Try.pinned (OpenSpec.upto diffWindowsSpec)

/-- 'ligaturelaw31.DiffStays', WHERE WHAT IT READS IS OF BULK AT MOST 1048576: true; the input reads as it did. -/
def diffStaysUptoRow : OpenClaim := { program := "ytphdbombgljamaa", sum := "fd80d82bcc60136d76427691d2e9e7f6570842b4d0331c34fdfc9b4ef2f80eb0", func := "ligature/ligaturelaw31.DiffStays", spec := "diffStays", unfollowed := true, recurses := true, apart := false, narrowed := true }
def DiffStaysUptoSaid : Prop := diffStaysUptoRow.holds Try.pinned (OpenSpec.upto diffStaysSpec)

/-- 'ligaturelaw09.MarkNews', WHERE WHAT IT READS IS OF BULK AT MOST 1048576: true; the input reads as it did. -/
def markNewsUptoRow : OpenClaim := { program := "ytphdbombgljamaa", sum := "fd80d82bcc60136d76427691d2e9e7f6570842b4d0331c34fdfc9b4ef2f80eb0", func := "ligature/ligaturelaw09.MarkNews", spec := "markNews", apart := false, narrowed := true }
def MarkNewsUptoSaid : Prop := markNewsUptoRow.holds Try.pinned (OpenSpec.upto markNewsSpec)

/-- 'ligaturelaw09.MarkRenders', WHERE WHAT IT READS IS OF BULK AT MOST 1048576: true; the input reads as it did. -/
def markRendersUptoRow : OpenClaim := { program := "ytphdbombgljamaa", sum := "fd80d82bcc60136d76427691d2e9e7f6570842b4d0331c34fdfc9b4ef2f80eb0", func := "ligature/ligaturelaw09.MarkRenders", spec := "markRenders", inPlace := ["internal/abi.NoEscape"], apart := false, narrowed := true }
def MarkRendersUptoSaid : Prop := markRendersUptoRow.holds Try.pinned (OpenSpec.upto markRendersSpec)

/-- 'ligaturelaw09.MarkBack', WHERE WHAT IT READS IS OF BULK AT MOST 1048576: true; the input reads as it did. -/
def markBackUptoRow : OpenClaim := { program := "ytphdbombgljamaa", sum := "fd80d82bcc60136d76427691d2e9e7f6570842b4d0331c34fdfc9b4ef2f80eb0", func := "ligature/ligaturelaw09.MarkBack", spec := "markBack", inPlace := ["internal/abi.NoEscape"], apart := false, narrowed := true }
def MarkBackUptoSaid : Prop := markBackUptoRow.holds Try.pinned (OpenSpec.upto markBackSpec)

/-- 'ligaturelaw31.DiffMakes', WHERE WHAT IT READS IS OF BULK AT MOST 1048576: true; the input reads as it did. -/
def diffMakesUptoRow : OpenClaim := { program := "ytphdbombgljamaa", sum := "fd80d82bcc60136d76427691d2e9e7f6570842b4d0331c34fdfc9b4ef2f80eb0", func := "ligature/ligaturelaw31.DiffMakes", spec := "diffMakes", unfollowed := true, recurses := true, apart := false, narrowed := true }
def DiffMakesUptoSaid : Prop := diffMakesUptoRow.holds Try.pinned (OpenSpec.upto diffMakesSpec)

/-- 'ligaturelaw09.MarkNone', WHERE WHAT IT READS IS OF BULK AT MOST 1048576: true; the input reads as it did. -/
def markNoneUptoRow : OpenClaim := { program := "ytphdbombgljamaa", sum := "fd80d82bcc60136d76427691d2e9e7f6570842b4d0331c34fdfc9b4ef2f80eb0", func := "ligature/ligaturelaw09.MarkNone", spec := "markNone", inPlace := ["internal/abi.NoEscape"], apart := false, narrowed := true }
def MarkNoneUptoSaid : Prop := markNoneUptoRow.holds Try.pinned (OpenSpec.upto markNoneSpec)

end Rows
end Go.Proofs.Ytphdbombgljamaa
