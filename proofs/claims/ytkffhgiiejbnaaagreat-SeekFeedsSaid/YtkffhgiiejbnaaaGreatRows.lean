/-
  No cell of these rows narrows 'for every input' (looked for: loops, veiled, ifaces, maps, wideKeys, modest, calm, conditions, laid).
  DERIVED. THE GIVEN ROWS OF THIS SEAT. 10 by the template 'for every input the law returns true; each argument reads behind the call as it read before'; 0 by the template 'total and deterministic' (their statements: YtkffhgiiejbnaaaGreatTotals.lean).
  GIVEN WITH THE SEED: the statements are not yours to turn. If you find one false, say at which input.
  Laid BY PROGRAM, IN A SANDBOX (cutbox-rows.mjs): the forced cells as the released guide's own fill.sh prints them over the translation 148e6b150d6656d7… (all of the seat's roots in one cut). By AI agents, Wed Nov 11 2026. No macro, syntax, notation, axiom, sorry.
-/
import Derived.Test.YtkffhgiiejbnaaaGreatChecked
import GoSem.Claim
import GoSem.ClaimJoined
import GoSem.ClaimMapViews
import Derived.JoinedTies
import Derived.KernelRfl
namespace Go.Proofs.YtkffhgiiejbnaaaGreat
/- THE CELL 'sum', in the pinned program and in every row, IS THE sha256 OF THE DUMP (.gsa) THAT YtkffhgiiejbnaaaGreatProg.lean LOADS. Nothing in Lean hashes anything: it is a label: what it is worth is what the hold of that sum in a sandbox is worth. -/
noncomputable def Tryz.pinned : Pinned := { name := "ytkffhgiiejbnaaagreat", sum := "148e6b150d6656d7d7a1731f473845809aeceae3e1cf861222b17a959379a1a4", checked := Tryz.checked }
namespace Rows
def none {H : Type} : Left H := { results := [], args := [] }

/-- 'ligaturelaw12.EncodePieces': WHATEVER THE INPUT: true; the input reads as it did. -/
def encodePiecesSpec : ChangeSpec := { name := "encodePieces", fn := fun _ => fun
  | [d1, d2] => { results := [.lit (.bool true)], args := [d1, d2] }
  | _ => none }
def encodePiecesRow : OpenClaim := { program := "ytkffhgiiejbnaaagreat", sum := "148e6b150d6656d7d7a1731f473845809aeceae3e1cf861222b17a959379a1a4", func := "ligature/ligaturelaw12.EncodePieces", spec := "encodePieces", unfollowed := true, recurses := true, plainKeys := false, apart := false }
def EncodePiecesSaid : Prop := encodePiecesRow.holds Tryz.pinned (OpenSpec.ofChange encodePiecesSpec)

/-- ITS FALSE NEIGHBOUR: 'it returns false'. Refute it at one input. -/
def encodePiecesWrong : ChangeSpec := { name := "encodePieces", fn := fun _ => fun
  | [d1, d2] => { results := [.lit (.bool false)], args := [d1, d2] }
  | _ => none }
def EncodePiecesWrongFalsely : Prop := encodePiecesRow.holds Tryz.pinned (OpenSpec.ofChange encodePiecesWrong)

/-- 'ligaturelaw12.EncodeItems': WHATEVER THE INPUT: true; the input reads as it did. -/
def encodeItemsSpec : ChangeSpec := { name := "encodeItems", fn := fun _ => fun
  | [d1, d2] => { results := [.lit (.bool true)], args := [d1, d2] }
  | _ => none }
def encodeItemsRow : OpenClaim := { program := "ytkffhgiiejbnaaagreat", sum := "148e6b150d6656d7d7a1731f473845809aeceae3e1cf861222b17a959379a1a4", func := "ligature/ligaturelaw12.EncodeItems", spec := "encodeItems", unfollowed := true, recurses := true, plainKeys := false, apart := false }
def EncodeItemsSaid : Prop := encodeItemsRow.holds Tryz.pinned (OpenSpec.ofChange encodeItemsSpec)

/-- ITS FALSE NEIGHBOUR: 'it returns false'. Refute it at one input. -/
def encodeItemsWrong : ChangeSpec := { name := "encodeItems", fn := fun _ => fun
  | [d1, d2] => { results := [.lit (.bool false)], args := [d1, d2] }
  | _ => none }
def EncodeItemsWrongFalsely : Prop := encodeItemsRow.holds Tryz.pinned (OpenSpec.ofChange encodeItemsWrong)

/-- 'ligaturelaw12.EncodeNone': WHATEVER THE INPUT: true; the input reads as it did. -/
def encodeNoneSpec : ChangeSpec := { name := "encodeNone", fn := fun _ => fun
  | [d1, d2] => { results := [.lit (.bool true)], args := [d1, d2] }
  | _ => none }
def encodeNoneRow : OpenClaim := { program := "ytkffhgiiejbnaaagreat", sum := "148e6b150d6656d7d7a1731f473845809aeceae3e1cf861222b17a959379a1a4", func := "ligature/ligaturelaw12.EncodeNone", spec := "encodeNone", unfollowed := true, recurses := true, plainKeys := false, apart := false }
def EncodeNoneSaid : Prop := encodeNoneRow.holds Tryz.pinned (OpenSpec.ofChange encodeNoneSpec)

/-- ITS FALSE NEIGHBOUR: 'it returns false'. Refute it at one input. -/
def encodeNoneWrong : ChangeSpec := { name := "encodeNone", fn := fun _ => fun
  | [d1, d2] => { results := [.lit (.bool false)], args := [d1, d2] }
  | _ => none }
def EncodeNoneWrongFalsely : Prop := encodeNoneRow.holds Tryz.pinned (OpenSpec.ofChange encodeNoneWrong)

/-- 'ligaturelaw35.SeekTexts': WHATEVER THE INPUT: true; the input reads as it did. -/
def seekTextsSpec : ChangeSpec := { name := "seekTexts", fn := fun _ => fun
  | [d1, d2, d3] => { results := [.lit (.bool true)], args := [d1, d2, d3] }
  | _ => none }
def seekTextsRow : OpenClaim := { program := "ytkffhgiiejbnaaagreat", sum := "148e6b150d6656d7d7a1731f473845809aeceae3e1cf861222b17a959379a1a4", func := "ligature/ligaturelaw35.SeekTexts", spec := "seekTexts", inPlace := ["sync/atomic.AddInt64"], unfollowed := true, recurses := true, plainKeys := false, apart := false }
def SeekTextsSaid : Prop := seekTextsRow.holds Tryz.pinned (OpenSpec.ofChange seekTextsSpec)

/-- ITS FALSE NEIGHBOUR: 'it returns false'. Refute it at one input. -/
def seekTextsWrong : ChangeSpec := { name := "seekTexts", fn := fun _ => fun
  | [d1, d2, d3] => { results := [.lit (.bool false)], args := [d1, d2, d3] }
  | _ => none }
def SeekTextsWrongFalsely : Prop := seekTextsRow.holds Tryz.pinned (OpenSpec.ofChange seekTextsWrong)

/-- 'ligaturelaw12.EncodeTexts': WHATEVER THE INPUT: true; the input reads as it did. -/
def encodeTextsSpec : ChangeSpec := { name := "encodeTexts", fn := fun _ => fun
  | [d1, d2] => { results := [.lit (.bool true)], args := [d1, d2] }
  | _ => none }
def encodeTextsRow : OpenClaim := { program := "ytkffhgiiejbnaaagreat", sum := "148e6b150d6656d7d7a1731f473845809aeceae3e1cf861222b17a959379a1a4", func := "ligature/ligaturelaw12.EncodeTexts", spec := "encodeTexts", inPlace := ["sync/atomic.AddInt64"], unfollowed := true, recurses := true, plainKeys := false, apart := false }
def EncodeTextsSaid : Prop := encodeTextsRow.holds Tryz.pinned (OpenSpec.ofChange encodeTextsSpec)

/-- ITS FALSE NEIGHBOUR: 'it returns false'. Refute it at one input. -/
def encodeTextsWrong : ChangeSpec := { name := "encodeTexts", fn := fun _ => fun
  | [d1, d2] => { results := [.lit (.bool false)], args := [d1, d2] }
  | _ => none }
def EncodeTextsWrongFalsely : Prop := encodeTextsRow.holds Tryz.pinned (OpenSpec.ofChange encodeTextsWrong)

/-- 'ligaturelaw13.DecodeTexts': WHATEVER THE INPUT: true; the input reads as it did. -/
def decodeTextsSpec : ChangeSpec := { name := "decodeTexts", fn := fun _ => fun
  | [d1, d2, d3] => { results := [.lit (.bool true)], args := [d1, d2, d3] }
  | _ => none }
def decodeTextsRow : OpenClaim := { program := "ytkffhgiiejbnaaagreat", sum := "148e6b150d6656d7d7a1731f473845809aeceae3e1cf861222b17a959379a1a4", func := "ligature/ligaturelaw13.DecodeTexts", spec := "decodeTexts", inPlace := ["sync/atomic.AddInt64", "internal/abi.NoEscape"], unfollowed := true, recurses := true, plainKeys := false, apart := false }
def DecodeTextsSaid : Prop := decodeTextsRow.holds Tryz.pinned (OpenSpec.ofChange decodeTextsSpec)

/-- ITS FALSE NEIGHBOUR: 'it returns false'. Refute it at one input. -/
def decodeTextsWrong : ChangeSpec := { name := "decodeTexts", fn := fun _ => fun
  | [d1, d2, d3] => { results := [.lit (.bool false)], args := [d1, d2, d3] }
  | _ => none }
def DecodeTextsWrongFalsely : Prop := decodeTextsRow.holds Tryz.pinned (OpenSpec.ofChange decodeTextsWrong)

/-- 'ligaturelaw35.SeekFeeds': WHATEVER THE INPUT: true; the input reads as it did. -/
def seekFeedsSpec : ChangeSpec := { name := "seekFeeds", fn := fun _ => fun
  | [d1, d2, d3] => { results := [.lit (.bool true)], args := [d1, d2, d3] }
  | _ => none }
def seekFeedsRow : OpenClaim := { program := "ytkffhgiiejbnaaagreat", sum := "148e6b150d6656d7d7a1731f473845809aeceae3e1cf861222b17a959379a1a4", func := "ligature/ligaturelaw35.SeekFeeds", spec := "seekFeeds", inPlace := ["sync/atomic.AddInt64"], unfollowed := true, recurses := true, plainKeys := false, apart := false }
def SeekFeedsSaid : Prop := seekFeedsRow.holds Tryz.pinned (OpenSpec.ofChange seekFeedsSpec)

/-- ITS FALSE NEIGHBOUR: 'it returns false'. Refute it at one input. -/
def seekFeedsWrong : ChangeSpec := { name := "seekFeeds", fn := fun _ => fun
  | [d1, d2, d3] => { results := [.lit (.bool false)], args := [d1, d2, d3] }
  | _ => none }
def SeekFeedsWrongFalsely : Prop := seekFeedsRow.holds Tryz.pinned (OpenSpec.ofChange seekFeedsWrong)

/-- 'ligaturelaw35.SeekNone': WHATEVER THE INPUT: true; the input reads as it did. -/
def seekNoneSpec : ChangeSpec := { name := "seekNone", fn := fun _ => fun
  | [d1, d2] => { results := [.lit (.bool true)], args := [d1, d2] }
  | _ => none }
def seekNoneRow : OpenClaim := { program := "ytkffhgiiejbnaaagreat", sum := "148e6b150d6656d7d7a1731f473845809aeceae3e1cf861222b17a959379a1a4", func := "ligature/ligaturelaw35.SeekNone", spec := "seekNone", inPlace := ["sync/atomic.AddInt64"], unfollowed := true, recurses := true, plainKeys := false, apart := false }
def SeekNoneSaid : Prop := seekNoneRow.holds Tryz.pinned (OpenSpec.ofChange seekNoneSpec)

/-- ITS FALSE NEIGHBOUR: 'it returns false'. Refute it at one input. -/
def seekNoneWrong : ChangeSpec := { name := "seekNone", fn := fun _ => fun
  | [d1, d2] => { results := [.lit (.bool false)], args := [d1, d2] }
  | _ => none }
def SeekNoneWrongFalsely : Prop := seekNoneRow.holds Tryz.pinned (OpenSpec.ofChange seekNoneWrong)

/-- 'ligaturelaw13.DecodeFeeds': WHATEVER THE INPUT: true; the input reads as it did. -/
def decodeFeedsSpec : ChangeSpec := { name := "decodeFeeds", fn := fun _ => fun
  | [d1, d2] => { results := [.lit (.bool true)], args := [d1, d2] }
  | _ => none }
def decodeFeedsRow : OpenClaim := { program := "ytkffhgiiejbnaaagreat", sum := "148e6b150d6656d7d7a1731f473845809aeceae3e1cf861222b17a959379a1a4", func := "ligature/ligaturelaw13.DecodeFeeds", spec := "decodeFeeds", inPlace := ["sync/atomic.AddInt64", "internal/abi.NoEscape"], unfollowed := true, recurses := true, plainKeys := false, apart := false }
def DecodeFeedsSaid : Prop := decodeFeedsRow.holds Tryz.pinned (OpenSpec.ofChange decodeFeedsSpec)

/-- ITS FALSE NEIGHBOUR: 'it returns false'. Refute it at one input. -/
def decodeFeedsWrong : ChangeSpec := { name := "decodeFeeds", fn := fun _ => fun
  | [d1, d2] => { results := [.lit (.bool false)], args := [d1, d2] }
  | _ => none }
def DecodeFeedsWrongFalsely : Prop := decodeFeedsRow.holds Tryz.pinned (OpenSpec.ofChange decodeFeedsWrong)

/-- 'ligaturelaw13.DecodeNone': WHATEVER THE INPUT: true; the input reads as it did. -/
def decodeNoneSpec : ChangeSpec := { name := "decodeNone", fn := fun _ => fun
  | [d] => { results := [.lit (.bool true)], args := [d] }
  | _ => none }
def decodeNoneRow : OpenClaim := { program := "ytkffhgiiejbnaaagreat", sum := "148e6b150d6656d7d7a1731f473845809aeceae3e1cf861222b17a959379a1a4", func := "ligature/ligaturelaw13.DecodeNone", spec := "decodeNone", inPlace := ["sync/atomic.AddInt64", "internal/abi.NoEscape"], unfollowed := true, recurses := true, plainKeys := false, apart := false }
def DecodeNoneSaid : Prop := decodeNoneRow.holds Tryz.pinned (OpenSpec.ofChange decodeNoneSpec)

/-- ITS FALSE NEIGHBOUR: 'it returns false'. Refute it at one input. -/
def decodeNoneWrong : ChangeSpec := { name := "decodeNone", fn := fun _ => fun
  | [d] => { results := [.lit (.bool false)], args := [d] }
  | _ => none }
def DecodeNoneWrongFalsely : Prop := decodeNoneRow.holds Tryz.pinned (OpenSpec.ofChange decodeNoneWrong)

/- THE SECOND FORM. 'bulk': how many values and letters a reading holds, each counted each time it is reached (what is shared counts as often as it is met; a slice's spare places count too). A statement '..UptoSaid' is the law's where the arguments, and the package variables that the reading takes, are together of bulk at most 1048576: NARROWER than '..Said'. Prove '..Said' where nothing that the law and all that it calls make is longer than what came in: it says more and counts as full. Else prove '..UptoSaid'. A law counts once. -/
mutual
def uptoBulk {H : Type} : DataW H → Nat
  | .lit (.string bytes) => bytes.length + 1
  | .lit _ => 1
  | .nil => 1
  | .ptr d => uptoBulk d + 1
  | .slice elems spare => uptoBulkAll elems + uptoBulkAll spare + 1
  | .agg parts => uptoBulkAll parts + 1
  | .iface _ d => uptoBulk d + 1
  | .map entries => uptoBulkEntries entries + 1
  | .held _ => 1
def uptoBulkAll {H : Type} : List (DataW H) → Nat
  | [] => 0
  | d :: r => uptoBulk d + uptoBulkAll r
def uptoBulkEntries {H : Type} : List (Lit × DataW H) → Nat
  | [] => 0
  | x :: r => uptoBulkEntry x + uptoBulkEntries r
def uptoBulkEntry {H : Type} : Lit × DataW H → Nat
  | (.string bytes, d) => bytes.length + uptoBulk d + 1
  | (_, d) => uptoBulk d + 1
 end
def uptoSmall : (H : Type) → List (DataW H) → Bool := fun _ ds => decide (uptoBulkAll ds ≤ 1048576)
def OpenSpec.upto (s : _root_.Go.ChangeSpec) : _root_.Go.OpenSpec := { _root_.Go.OpenSpec.ofChange s with cond := some uptoSmall }

/-- 'ligaturelaw12.EncodePieces', WHERE WHAT IT READS IS OF BULK AT MOST 1048576: true; the input reads as it did. -/
def encodePiecesUptoRow : OpenClaim := { program := "ytkffhgiiejbnaaagreat", sum := "148e6b150d6656d7d7a1731f473845809aeceae3e1cf861222b17a959379a1a4", func := "ligature/ligaturelaw12.EncodePieces", spec := "encodePieces", unfollowed := true, recurses := true, plainKeys := false, apart := false, narrowed := true }
def EncodePiecesUptoSaid : Prop := encodePiecesUptoRow.holds Tryz.pinned (OpenSpec.upto encodePiecesSpec)

/-- 'ligaturelaw12.EncodeItems', WHERE WHAT IT READS IS OF BULK AT MOST 1048576: true; the input reads as it did. -/
def encodeItemsUptoRow : OpenClaim := { program := "ytkffhgiiejbnaaagreat", sum := "148e6b150d6656d7d7a1731f473845809aeceae3e1cf861222b17a959379a1a4", func := "ligature/ligaturelaw12.EncodeItems", spec := "encodeItems", unfollowed := true, recurses := true, plainKeys := false, apart := false, narrowed := true }
def EncodeItemsUptoSaid : Prop := encodeItemsUptoRow.holds Tryz.pinned (OpenSpec.upto encodeItemsSpec)

/-- 'ligaturelaw12.EncodeNone', WHERE WHAT IT READS IS OF BULK AT MOST 1048576: true; the input reads as it did. -/
def encodeNoneUptoRow : OpenClaim := { program := "ytkffhgiiejbnaaagreat", sum := "148e6b150d6656d7d7a1731f473845809aeceae3e1cf861222b17a959379a1a4", func := "ligature/ligaturelaw12.EncodeNone", spec := "encodeNone", unfollowed := true, recurses := true, plainKeys := false, apart := false, narrowed := true }
def EncodeNoneUptoSaid : Prop := encodeNoneUptoRow.holds Tryz.pinned (OpenSpec.upto encodeNoneSpec)

/-- 'ligaturelaw35.SeekTexts', WHERE WHAT IT READS IS OF BULK AT MOST 1048576: true; the input reads as it did. -/
def seekTextsUptoRow : OpenClaim := { program := "ytkffhgiiejbnaaagreat", sum := "148e6b150d6656d7d7a1731f473845809aeceae3e1cf861222b17a959379a1a4", func := "ligature/ligaturelaw35.SeekTexts", spec := "seekTexts", inPlace := ["sync/atomic.AddInt64"], unfollowed := true, recurses := true, plainKeys := false, apart := false, narrowed := true }
def SeekTextsUptoSaid : Prop := seekTextsUptoRow.holds Tryz.pinned (OpenSpec.upto seekTextsSpec)

/-- 'ligaturelaw12.EncodeTexts', WHERE WHAT IT READS IS OF BULK AT MOST 1048576: true; the input reads as it did. -/
def encodeTextsUptoRow : OpenClaim := { program := "ytkffhgiiejbnaaagreat", sum := "148e6b150d6656d7d7a1731f473845809aeceae3e1cf861222b17a959379a1a4", func := "ligature/ligaturelaw12.EncodeTexts", spec := "encodeTexts", inPlace := ["sync/atomic.AddInt64"], unfollowed := true, recurses := true, plainKeys := false, apart := false, narrowed := true }
def EncodeTextsUptoSaid : Prop := encodeTextsUptoRow.holds Tryz.pinned (OpenSpec.upto encodeTextsSpec)

/-- 'ligaturelaw13.DecodeTexts', WHERE WHAT IT READS IS OF BULK AT MOST 1048576: true; the input reads as it did. -/
def decodeTextsUptoRow : OpenClaim := { program := "ytkffhgiiejbnaaagreat", sum := "148e6b150d6656d7d7a1731f473845809aeceae3e1cf861222b17a959379a1a4", func := "ligature/ligaturelaw13.DecodeTexts", spec := "decodeTexts", inPlace := ["sync/atomic.AddInt64", "internal/abi.NoEscape"], unfollowed := true, recurses := true, plainKeys := false, apart := false, narrowed := true }
def DecodeTextsUptoSaid : Prop := decodeTextsUptoRow.holds Tryz.pinned (OpenSpec.upto decodeTextsSpec)

/-- 'ligaturelaw35.SeekFeeds', WHERE WHAT IT READS IS OF BULK AT MOST 1048576: true; the input reads as it did. -/
def seekFeedsUptoRow : OpenClaim := { program := "ytkffhgiiejbnaaagreat", sum := "148e6b150d6656d7d7a1731f473845809aeceae3e1cf861222b17a959379a1a4", func := "ligature/ligaturelaw35.SeekFeeds", spec := "seekFeeds", inPlace := ["sync/atomic.AddInt64"], unfollowed := true, recurses := true, plainKeys := false, apart := false, narrowed := true }
def SeekFeedsUptoSaid : Prop := seekFeedsUptoRow.holds Tryz.pinned (OpenSpec.upto seekFeedsSpec)

/-- 'ligaturelaw35.SeekNone', WHERE WHAT IT READS IS OF BULK AT MOST 1048576: true; the input reads as it did. -/
def seekNoneUptoRow : OpenClaim := { program := "ytkffhgiiejbnaaagreat", sum := "148e6b150d6656d7d7a1731f473845809aeceae3e1cf861222b17a959379a1a4", func := "ligature/ligaturelaw35.SeekNone", spec := "seekNone", inPlace := ["sync/atomic.AddInt64"], unfollowed := true, recurses := true, plainKeys := false, apart := false, narrowed := true }
def SeekNoneUptoSaid : Prop := seekNoneUptoRow.holds Tryz.pinned (OpenSpec.upto seekNoneSpec)

/-- 'ligaturelaw13.DecodeFeeds', WHERE WHAT IT READS IS OF BULK AT MOST 1048576: true; the input reads as it did. -/
def decodeFeedsUptoRow : OpenClaim := { program := "ytkffhgiiejbnaaagreat", sum := "148e6b150d6656d7d7a1731f473845809aeceae3e1cf861222b17a959379a1a4", func := "ligature/ligaturelaw13.DecodeFeeds", spec := "decodeFeeds", inPlace := ["sync/atomic.AddInt64", "internal/abi.NoEscape"], unfollowed := true, recurses := true, plainKeys := false, apart := false, narrowed := true }
def DecodeFeedsUptoSaid : Prop := decodeFeedsUptoRow.holds Tryz.pinned (OpenSpec.upto decodeFeedsSpec)

/-- 'ligaturelaw13.DecodeNone', WHERE WHAT IT READS IS OF BULK AT MOST 1048576: true; the input reads as it did. -/
def decodeNoneUptoRow : OpenClaim := { program := "ytkffhgiiejbnaaagreat", sum := "148e6b150d6656d7d7a1731f473845809aeceae3e1cf861222b17a959379a1a4", func := "ligature/ligaturelaw13.DecodeNone", spec := "decodeNone", inPlace := ["sync/atomic.AddInt64", "internal/abi.NoEscape"], unfollowed := true, recurses := true, plainKeys := false, apart := false, narrowed := true }
def DecodeNoneUptoSaid : Prop := decodeNoneUptoRow.holds Tryz.pinned (OpenSpec.upto decodeNoneSpec)

end Rows
end Go.Proofs.YtkffhgiiejbnaaaGreat
