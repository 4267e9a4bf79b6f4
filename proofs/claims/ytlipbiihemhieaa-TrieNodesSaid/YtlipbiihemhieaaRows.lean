/-
  No cell of these rows narrows 'for every input' (looked for: loops, veiled, ifaces, maps, wideKeys, modest, calm, conditions, laid).
  DERIVED. THE GIVEN ROWS OF THIS SEAT. 11 by the template 'for every input the law returns true; each argument reads behind the call as it read before'; 0 by the template 'total and deterministic' (their statements: YtlipbiihemhieaaTotals.lean).
  GIVEN WITH THE SEED: the statements are not yours to turn. If you find one false, say at which input.
  Laid BY PROGRAM, IN A SANDBOX (cutbox-rows.mjs): the forced cells as the released guide's own fill.sh prints them over the translation 9ae6d8d500fe5197… (all of the seat's roots in one cut). By AI agents, Wed Nov 11 2026. No macro, syntax, notation, axiom, sorry.
-/
import Derived.Test.YtlipbiihemhieaaChecked
import GoSem.Claim
import GoSem.ClaimJoined
import GoSem.ClaimMapViews
import Derived.JoinedTies
import Derived.KernelRfl
namespace Go.Proofs.Ytlipbiihemhieaa
/- THE CELL 'sum', in the pinned program and in every row, IS THE sha256 OF THE DUMP (.gsa) THAT YtlipbiihemhieaaProg.lean LOADS. Nothing in Lean hashes anything: it is a label: what it is worth is what the hold of that sum in a sandbox is worth. -/
noncomputable def Try.pinned : Pinned := { name := "ytlipbiihemhieaa", sum := "9ae6d8d500fe5197f4cb9af6f5eb1aa33894eb058da4270920741c64f63720f9", checked := Try.checked }
namespace Rows
def none {H : Type} : Left H := { results := [], args := [] }

/-- 'paronymlaw19.OrderBehind': WHATEVER THE INPUT: true; the input reads as it did. -/
def orderBehindSpec : ChangeSpec := { name := "orderBehind", fn := fun _ => fun
  | [d1, d2, d3] => { results := [.lit (.bool true)], args := [d1, d2, d3] }
  | _ => none }
def orderBehindRow : OpenClaim := { program := "ytlipbiihemhieaa", sum := "9ae6d8d500fe5197f4cb9af6f5eb1aa33894eb058da4270920741c64f63720f9", func := "paronym/paronymlaw19.OrderBehind", spec := "orderBehind", unfollowed := true, recurses := true, apart := false }
def OrderBehindSaid : Prop := orderBehindRow.holds Try.pinned (OpenSpec.ofChange orderBehindSpec)

/-- ITS FALSE NEIGHBOUR: 'it returns false'. Refute it at one input. -/
def orderBehindWrong : ChangeSpec := { name := "orderBehind", fn := fun _ => fun
  | [d1, d2, d3] => { results := [.lit (.bool false)], args := [d1, d2, d3] }
  | _ => none }
def OrderBehindWrongFalsely : Prop := orderBehindRow.holds Try.pinned (OpenSpec.ofChange orderBehindWrong)

/-- 'paronymlaw19.OrderTexts': WHATEVER THE INPUT: true; the input reads as it did. -/
def orderTextsSpec : ChangeSpec := { name := "orderTexts", fn := fun _ => fun
  | [d1, d2, d3] => { results := [.lit (.bool true)], args := [d1, d2, d3] }
  | _ => none }
def orderTextsRow : OpenClaim := { program := "ytlipbiihemhieaa", sum := "9ae6d8d500fe5197f4cb9af6f5eb1aa33894eb058da4270920741c64f63720f9", func := "paronym/paronymlaw19.OrderTexts", spec := "orderTexts", unfollowed := true, recurses := true, apart := false }
def OrderTextsSaid : Prop := orderTextsRow.holds Try.pinned (OpenSpec.ofChange orderTextsSpec)

/-- ITS FALSE NEIGHBOUR: 'it returns false'. Refute it at one input. -/
def orderTextsWrong : ChangeSpec := { name := "orderTexts", fn := fun _ => fun
  | [d1, d2, d3] => { results := [.lit (.bool false)], args := [d1, d2, d3] }
  | _ => none }
def OrderTextsWrongFalsely : Prop := orderTextsRow.holds Try.pinned (OpenSpec.ofChange orderTextsWrong)

/-- 'paronymlaw19.OrderCounts': WHATEVER THE INPUT: true; the input reads as it did. -/
def orderCountsSpec : ChangeSpec := { name := "orderCounts", fn := fun _ => fun
  | [d1, d2, d3] => { results := [.lit (.bool true)], args := [d1, d2, d3] }
  | _ => none }
def orderCountsRow : OpenClaim := { program := "ytlipbiihemhieaa", sum := "9ae6d8d500fe5197f4cb9af6f5eb1aa33894eb058da4270920741c64f63720f9", func := "paronym/paronymlaw19.OrderCounts", spec := "orderCounts", unfollowed := true, recurses := true, apart := false }
def OrderCountsSaid : Prop := orderCountsRow.holds Try.pinned (OpenSpec.ofChange orderCountsSpec)

/-- ITS FALSE NEIGHBOUR: 'it returns false'. Refute it at one input. -/
def orderCountsWrong : ChangeSpec := { name := "orderCounts", fn := fun _ => fun
  | [d1, d2, d3] => { results := [.lit (.bool false)], args := [d1, d2, d3] }
  | _ => none }
def OrderCountsWrongFalsely : Prop := orderCountsRow.holds Try.pinned (OpenSpec.ofChange orderCountsWrong)

/-- 'paronymlaw19.OrderWalk': WHATEVER THE INPUT: true; the input reads as it did. -/
def orderWalkSpec : ChangeSpec := { name := "orderWalk", fn := fun _ => fun
  | [d1, d2] => { results := [.lit (.bool true)], args := [d1, d2] }
  | _ => none }
def orderWalkRow : OpenClaim := { program := "ytlipbiihemhieaa", sum := "9ae6d8d500fe5197f4cb9af6f5eb1aa33894eb058da4270920741c64f63720f9", func := "paronym/paronymlaw19.OrderWalk", spec := "orderWalk", unfollowed := true, recurses := true, apart := false }
def OrderWalkSaid : Prop := orderWalkRow.holds Try.pinned (OpenSpec.ofChange orderWalkSpec)

/-- ITS FALSE NEIGHBOUR: 'it returns false'. Refute it at one input. -/
def orderWalkWrong : ChangeSpec := { name := "orderWalk", fn := fun _ => fun
  | [d1, d2] => { results := [.lit (.bool false)], args := [d1, d2] }
  | _ => none }
def OrderWalkWrongFalsely : Prop := orderWalkRow.holds Try.pinned (OpenSpec.ofChange orderWalkWrong)

/-- 'paronymlaw03.SpanAdds': WHATEVER THE INPUT: true; the input reads as it did. -/
def spanAddsSpec : ChangeSpec := { name := "spanAdds", fn := fun _ => fun
  | [d1, d2, d3] => { results := [.lit (.bool true)], args := [d1, d2, d3] }
  | _ => none }
def spanAddsRow : OpenClaim := { program := "ytlipbiihemhieaa", sum := "9ae6d8d500fe5197f4cb9af6f5eb1aa33894eb058da4270920741c64f63720f9", func := "paronym/paronymlaw03.SpanAdds", spec := "spanAdds", inPlace := ["slices.overlaps[paronym/span.Span]"], unfollowed := true, recurses := true, apart := false }
def SpanAddsSaid : Prop := spanAddsRow.holds Try.pinned (OpenSpec.ofChange spanAddsSpec)

/-- ITS FALSE NEIGHBOUR: 'it returns false'. Refute it at one input. -/
def spanAddsWrong : ChangeSpec := { name := "spanAdds", fn := fun _ => fun
  | [d1, d2, d3] => { results := [.lit (.bool false)], args := [d1, d2, d3] }
  | _ => none }
def SpanAddsWrongFalsely : Prop := spanAddsRow.holds Try.pinned (OpenSpec.ofChange spanAddsWrong)

/-- 'paronymlaw03.SpanTables': WHATEVER THE INPUT: true; the input reads as it did. -/
def spanTablesSpec : ChangeSpec := { name := "spanTables", fn := fun _ => fun
  | [d1, d2, d3] => { results := [.lit (.bool true)], args := [d1, d2, d3] }
  | _ => none }
def spanTablesRow : OpenClaim := { program := "ytlipbiihemhieaa", sum := "9ae6d8d500fe5197f4cb9af6f5eb1aa33894eb058da4270920741c64f63720f9", func := "paronym/paronymlaw03.SpanTables", spec := "spanTables", inPlace := ["slices.overlaps[paronym/span.Span]"], unfollowed := true, recurses := true, apart := false }
def SpanTablesSaid : Prop := spanTablesRow.holds Try.pinned (OpenSpec.ofChange spanTablesSpec)

/-- ITS FALSE NEIGHBOUR: 'it returns false'. Refute it at one input. -/
def spanTablesWrong : ChangeSpec := { name := "spanTables", fn := fun _ => fun
  | [d1, d2, d3] => { results := [.lit (.bool false)], args := [d1, d2, d3] }
  | _ => none }
def SpanTablesWrongFalsely : Prop := spanTablesRow.holds Try.pinned (OpenSpec.ofChange spanTablesWrong)

/-- 'paronymlaw03.SpanApart': WHATEVER THE INPUT: true; the input reads as it did. -/
def spanApartSpec : ChangeSpec := { name := "spanApart", fn := fun _ => fun
  | [d] => { results := [.lit (.bool true)], args := [d] }
  | _ => none }
def spanApartRow : OpenClaim := { program := "ytlipbiihemhieaa", sum := "9ae6d8d500fe5197f4cb9af6f5eb1aa33894eb058da4270920741c64f63720f9", func := "paronym/paronymlaw03.SpanApart", spec := "spanApart", inPlace := ["slices.overlaps[paronym/span.Span]"], unfollowed := true, recurses := true, apart := false }
def SpanApartSaid : Prop := spanApartRow.holds Try.pinned (OpenSpec.ofChange spanApartSpec)

/-- ITS FALSE NEIGHBOUR: 'it returns false'. Refute it at one input. -/
def spanApartWrong : ChangeSpec := { name := "spanApart", fn := fun _ => fun
  | [d] => { results := [.lit (.bool false)], args := [d] }
  | _ => none }
def SpanApartWrongFalsely : Prop := spanApartRow.holds Try.pinned (OpenSpec.ofChange spanApartWrong)

/-- 'paronymlaw03.SpanPoints': WHATEVER THE INPUT: true; the input reads as it did. -/
def spanPointsSpec : ChangeSpec := { name := "spanPoints", fn := fun _ => fun
  | [d1, d2, d3] => { results := [.lit (.bool true)], args := [d1, d2, d3] }
  | _ => none }
def spanPointsRow : OpenClaim := { program := "ytlipbiihemhieaa", sum := "9ae6d8d500fe5197f4cb9af6f5eb1aa33894eb058da4270920741c64f63720f9", func := "paronym/paronymlaw03.SpanPoints", spec := "spanPoints", inPlace := ["slices.overlaps[paronym/span.Span]"], unfollowed := true, recurses := true, apart := false }
def SpanPointsSaid : Prop := spanPointsRow.holds Try.pinned (OpenSpec.ofChange spanPointsSpec)

/-- ITS FALSE NEIGHBOUR: 'it returns false'. Refute it at one input. -/
def spanPointsWrong : ChangeSpec := { name := "spanPoints", fn := fun _ => fun
  | [d1, d2, d3] => { results := [.lit (.bool false)], args := [d1, d2, d3] }
  | _ => none }
def SpanPointsWrongFalsely : Prop := spanPointsRow.holds Try.pinned (OpenSpec.ofChange spanPointsWrong)

/-- 'paronymlaw22.TrieNodes': WHATEVER THE INPUT: true; the input reads as it did. -/
def trieNodesSpec : ChangeSpec := { name := "trieNodes", fn := fun _ => fun
  | [d] => { results := [.lit (.bool true)], args := [d] }
  | _ => none }
def trieNodesRow : OpenClaim := { program := "ytlipbiihemhieaa", sum := "9ae6d8d500fe5197f4cb9af6f5eb1aa33894eb058da4270920741c64f63720f9", func := "paronym/paronymlaw22.TrieNodes", spec := "trieNodes", inPlace := ["slices.overlaps[paronym/trie.edge]"], unfollowed := true, recurses := true, apart := false }
def TrieNodesSaid : Prop := trieNodesRow.holds Try.pinned (OpenSpec.ofChange trieNodesSpec)

/-- ITS FALSE NEIGHBOUR: 'it returns false'. Refute it at one input. -/
def trieNodesWrong : ChangeSpec := { name := "trieNodes", fn := fun _ => fun
  | [d] => { results := [.lit (.bool false)], args := [d] }
  | _ => none }
def TrieNodesWrongFalsely : Prop := trieNodesRow.holds Try.pinned (OpenSpec.ofChange trieNodesWrong)

/-- 'paronymlaw22.TrieSteps': WHATEVER THE INPUT: true; the input reads as it did. -/
def trieStepsSpec : ChangeSpec := { name := "trieSteps", fn := fun _ => fun
  | [d1, d2, d3] => { results := [.lit (.bool true)], args := [d1, d2, d3] }
  | _ => none }
def trieStepsRow : OpenClaim := { program := "ytlipbiihemhieaa", sum := "9ae6d8d500fe5197f4cb9af6f5eb1aa33894eb058da4270920741c64f63720f9", func := "paronym/paronymlaw22.TrieSteps", spec := "trieSteps", inPlace := ["slices.overlaps[paronym/trie.edge]"], unfollowed := true, recurses := true, apart := false }
def TrieStepsSaid : Prop := trieStepsRow.holds Try.pinned (OpenSpec.ofChange trieStepsSpec)

/-- ITS FALSE NEIGHBOUR: 'it returns false'. Refute it at one input. -/
def trieStepsWrong : ChangeSpec := { name := "trieSteps", fn := fun _ => fun
  | [d1, d2, d3] => { results := [.lit (.bool false)], args := [d1, d2, d3] }
  | _ => none }
def TrieStepsWrongFalsely : Prop := trieStepsRow.holds Try.pinned (OpenSpec.ofChange trieStepsWrong)

/-- 'paronymlaw22.TrieWalks': WHATEVER THE INPUT: true; the input reads as it did. -/
def trieWalksSpec : ChangeSpec := { name := "trieWalks", fn := fun _ => fun
  | [d1, d2] => { results := [.lit (.bool true)], args := [d1, d2] }
  | _ => none }
def trieWalksRow : OpenClaim := { program := "ytlipbiihemhieaa", sum := "9ae6d8d500fe5197f4cb9af6f5eb1aa33894eb058da4270920741c64f63720f9", func := "paronym/paronymlaw22.TrieWalks", spec := "trieWalks", inPlace := ["slices.overlaps[paronym/trie.edge]"], unfollowed := true, recurses := true, apart := false }
def TrieWalksSaid : Prop := trieWalksRow.holds Try.pinned (OpenSpec.ofChange trieWalksSpec)

/-- ITS FALSE NEIGHBOUR: 'it returns false'. Refute it at one input. -/
def trieWalksWrong : ChangeSpec := { name := "trieWalks", fn := fun _ => fun
  | [d1, d2] => { results := [.lit (.bool false)], args := [d1, d2] }
  | _ => none }
def TrieWalksWrongFalsely : Prop := trieWalksRow.holds Try.pinned (OpenSpec.ofChange trieWalksWrong)

/- THE SECOND FORM. 'bulk': how many values and letters a reading holds, each counted each time it is reached (what is shared counts as often as it is met; a slice's spare places count too). A statement '..UptoSaid' is the law's where the arguments, and the package variables that the reading takes, are together of bulk at most 1048576: NARROWER than '..Said'. Prove '..Said' where nothing that the law and all that it calls make is longer than what came in: it says more and counts as full. Else prove '..UptoSaid'. A law counts once. -/
mutual
def uptoBulk {H : Type} : DataW H → Nat
  | .lit (.string bytes) => bytes.length + 1
  | .lit _ => 1
  | .nil => 1
  | .ptr d => uptoBulk d + 1
  | .slice elems spare => uptoBulkAll elems + uptoBulkAll spare + 1
  | .agg parts => uptoBulkAll parts + 1
  | .iface _ d => uptoBulk d + 1
  | .map entries => uptoBulkEntries entries + 1
  | .held _ => 1
def uptoBulkAll {H : Type} : List (DataW H) → Nat
  | [] => 0
  | d :: r => uptoBulk d + uptoBulkAll r
def uptoBulkEntries {H : Type} : List (Lit × DataW H) → Nat
  | [] => 0
  | x :: r => uptoBulkEntry x + uptoBulkEntries r
def uptoBulkEntry {H : Type} : Lit × DataW H → Nat
  | (.string bytes, d) => bytes.length + uptoBulk d + 1
  | (_, d) => uptoBulk d + 1
 end
def uptoSmall : (H : Type) → List (DataW H) → Bool := fun _ ds => decide (uptoBulkAll ds ≤ 1048576)
def OpenSpec.upto (s : _root_.Go.ChangeSpec) : _root_.Go.OpenSpec := { _root_.Go.OpenSpec.ofChange s with cond := some uptoSmall }

/-- 'paronymlaw19.OrderBehind', WHERE WHAT IT READS IS OF BULK AT MOST 1048576: true; the input reads as it did. -/
def orderBehindUptoRow : OpenClaim := { program := "ytlipbiihemhieaa", sum := "9ae6d8d500fe5197f4cb9af6f5eb1aa33894eb058da4270920741c64f63720f9", func := "paronym/paronymlaw19.OrderBehind", spec := "orderBehind", unfollowed := true, recurses := true, apart := false, narrowed := true }
def OrderBehindUptoSaid : Prop := orderBehindUptoRow.holds Try.pinned (OpenSpec.upto orderBehindSpec)

/-- 'paronymlaw19.OrderTexts', WHERE WHAT IT READS IS OF BULK AT MOST 1048576: true; the input reads as it did. -/
def orderTextsUptoRow : OpenClaim := { program := "ytlipbiihemhieaa", sum := "9ae6d8d500fe5197f4cb9af6f5eb1aa33894eb058da4270920741c64f63720f9", func := "paronym/paronymlaw19.OrderTexts", spec := "orderTexts", unfollowed := true, recurses := true, apart := false, narrowed := true }
def OrderTextsUptoSaid : Prop := orderTextsUptoRow.holds Try.pinned (OpenSpec.upto orderTextsSpec)

/-- 'paronymlaw19.OrderCounts', WHERE WHAT IT READS IS OF BULK AT MOST 1048576: true; the input reads as it did. -/
def orderCountsUptoRow : OpenClaim := { program := "ytlipbiihemhieaa", sum := "9ae6d8d500fe5197f4cb9af6f5eb1aa33894eb058da4270920741c64f63720f9", func := "paronym/paronymlaw19.OrderCounts", spec := "orderCounts", unfollowed := true, recurses := true, apart := false, narrowed := true }
def OrderCountsUptoSaid : Prop := orderCountsUptoRow.holds Try.pinned (OpenSpec.upto orderCountsSpec)

/-- 'paronymlaw19.OrderWalk', WHERE WHAT IT READS IS OF BULK AT MOST 1048576: true; the input reads as it did. -/
def orderWalkUptoRow : OpenClaim := { program := "ytlipbiihemhieaa", sum := "9ae6d8d500fe5197f4cb9af6f5eb1aa33894eb058da4270920741c64f63720f9", func := "paronym/paronymlaw19.OrderWalk", spec := "orderWalk", unfollowed := true, recurses := true, apart := false, narrowed := true }
def OrderWalkUptoSaid : Prop := orderWalkUptoRow.holds Try.pinned (OpenSpec.upto orderWalkSpec)

/-- 'paronymlaw03.SpanAdds', WHERE WHAT IT READS IS OF BULK AT MOST 1048576: true; the input reads as it did. -/
def spanAddsUptoRow : OpenClaim := { program := "ytlipbiihemhieaa", sum := "9ae6d8d500fe5197f4cb9af6f5eb1aa33894eb058da4270920741c64f63720f9", func := "paronym/paronymlaw03.SpanAdds", spec := "spanAdds", inPlace := ["slices.overlaps[paronym/span.Span]"], unfollowed := true, recurses := true, apart := false, narrowed := true }
def SpanAddsUptoSaid : Prop := spanAddsUptoRow.holds Try.pinned (OpenSpec.upto spanAddsSpec)

/-- 'paronymlaw03.SpanTables', WHERE WHAT IT READS IS OF BULK AT MOST 1048576: true; the input reads as it did. -/
def spanTablesUptoRow : OpenClaim := { program := "ytlipbiihemhieaa", sum := "9ae6d8d500fe5197f4cb9af6f5eb1aa33894eb058da4270920741c64f63720f9", func := "paronym/paronymlaw03.SpanTables", spec := "spanTables", inPlace := ["slices.overlaps[paronym/span.Span]"], unfollowed := true, recurses := true, apart := false, narrowed := true }
def SpanTablesUptoSaid : Prop := spanTablesUptoRow.holds Try.pinned (OpenSpec.upto spanTablesSpec)

/-- 'paronymlaw03.SpanApart', WHERE WHAT IT READS IS OF BULK AT MOST 1048576: true; the input reads as it did. -/
def spanApartUptoRow : OpenClaim := { program := "ytlipbiihemhieaa", sum := "9ae6d8d500fe5197f4cb9af6f5eb1aa33894eb058da4270920741c64f63720f9", func := "paronym/paronymlaw03.SpanApart", spec := "spanApart", inPlace := ["slices.overlaps[paronym/span.Span]"], unfollowed := true, recurses := true, apart := false, narrowed := true }
def SpanApartUptoSaid : Prop := spanApartUptoRow.holds Try.pinned (OpenSpec.upto spanApartSpec)

/-- 'paronymlaw03.SpanPoints', WHERE WHAT IT READS IS OF BULK AT MOST 1048576: true; the input reads as it did. -/
def spanPointsUptoRow : OpenClaim := { program := "ytlipbiihemhieaa", sum := "9ae6d8d500fe5197f4cb9af6f5eb1aa33894eb058da4270920741c64f63720f9", func := "paronym/paronymlaw03.SpanPoints", spec := "spanPoints", inPlace := ["slices.overlaps[paronym/span.Span]"], unfollowed := true, recurses := true, apart := false, narrowed := true }
def SpanPointsUptoSaid : Prop := spanPointsUptoRow.holds Try.pinned (OpenSpec.upto spanPointsSpec)

/-- 'paronymlaw22.TrieNodes', WHERE WHAT IT READS IS OF BULK AT MOST 1048576: true; the input reads as it did. -/
def trieNodesUptoRow : OpenClaim := { program := "ytlipbiihemhieaa", sum := "9ae6d8d500fe5197f4cb9af6f5eb1aa33894eb058da4270920741c64f63720f9", func := "paronym/paronymlaw22.TrieNodes", spec := "trieNodes", inPlace := ["slices.overlaps[paronym/trie.edge]"], unfollowed := true, recurses := true, apart := false, narrowed := true }
def TrieNodesUptoSaid : Prop := trieNodesUptoRow.holds Try.pinned (OpenSpec.upto trieNodesSpec)

/-- 'paronymlaw22.TrieSteps', WHERE WHAT IT READS IS OF BULK AT MOST 1048576: true; the input reads as it did. -/
def trieStepsUptoRow : OpenClaim := { program := "ytlipbiihemhieaa", sum := "9ae6d8d500fe5197f4cb9af6f5eb1aa33894eb058da4270920741c64f63720f9", func := "paronym/paronymlaw22.TrieSteps", spec := "trieSteps", inPlace := ["slices.overlaps[paronym/trie.edge]"], unfollowed := true, recurses := true, apart := false, narrowed := true }
def TrieStepsUptoSaid : Prop := trieStepsUptoRow.holds Try.pinned (OpenSpec.upto trieStepsSpec)

/-- 'paronymlaw22.TrieWalks', WHERE WHAT IT READS IS OF BULK AT MOST 1048576: true; the input reads as it did. -/
def trieWalksUptoRow : OpenClaim := { program := "ytlipbiihemhieaa", sum := "9ae6d8d500fe5197f4cb9af6f5eb1aa33894eb058da4270920741c64f63720f9", func := "paronym/paronymlaw22.TrieWalks", spec := "trieWalks", inPlace := ["slices.overlaps[paronym/trie.edge]"], unfollowed := true, recurses := true, apart := false, narrowed := true }
def TrieWalksUptoSaid : Prop := trieWalksUptoRow.holds Try.pinned (OpenSpec.upto trieWalksSpec)

end Rows
end Go.Proofs.Ytlipbiihemhieaa
