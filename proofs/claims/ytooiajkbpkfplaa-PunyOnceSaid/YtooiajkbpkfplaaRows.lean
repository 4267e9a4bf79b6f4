/-
  No cell of these rows narrows 'for every input' (looked for: loops, veiled, ifaces, maps, wideKeys, modest, calm, conditions, laid).
  DERIVED. THE GIVEN ROWS OF THIS SEAT. 12 by the template 'for every input the law returns true; each argument reads behind the call as it read before'; 0 by the template 'total and deterministic' (their statements: YtooiajkbpkfplaaTotals.lean).
  GIVEN WITH THE SEED: the statements are not yours to turn. If you find one false, say at which input.
  Laid BY PROGRAM, IN A SANDBOX (cutbox-rows.mjs): the forced cells as the released guide's own fill.sh prints them over the translation b201e686f07d14bc… (all of the seat's roots in one cut). By AI agents, Wed Nov 11 2026. No macro, syntax, notation, axiom, sorry.
-/
import Derived.Test.YtooiajkbpkfplaaChecked
import GoSem.Claim
import GoSem.ClaimJoined
import GoSem.ClaimMapViews
import Derived.JoinedTies
import Derived.KernelRfl
namespace Go.Proofs.Ytooiajkbpkfplaa
/- THE CELL 'sum', in the pinned program and in every row, IS THE sha256 OF THE DUMP (.gsa) THAT YtooiajkbpkfplaaProg.lean LOADS. Nothing in Lean hashes anything: it is a label: what it is worth is what the hold of that sum in a sandbox is worth. -/
noncomputable def Try.pinned : Pinned := { name := "ytooiajkbpkfplaa", sum := "b201e686f07d14bc916e4704c1adb75dba934f2580a91b4f2be2280500516d88", checked := Try.checked }
namespace Rows
def none {H : Type} : Left H := { results := [], args := [] }

/-- 'paronymlaw11.LdhKinds': WHATEVER THE INPUT: true; the input reads as it did. -/
def ldhKindsSpec : ChangeSpec := { name := "ldhKinds", fn := fun _ => fun
  | [d] => { results := [.lit (.bool true)], args := [d] }
  | _ => none }
def ldhKindsRow : OpenClaim := { program := "ytooiajkbpkfplaa", sum := "b201e686f07d14bc916e4704c1adb75dba934f2580a91b4f2be2280500516d88", func := "paronym/paronymlaw11.LdhKinds", spec := "ldhKinds", unfollowed := true, recurses := true, apart := false }
def LdhKindsSaid : Prop := ldhKindsRow.holds Try.pinned (OpenSpec.ofChange ldhKindsSpec)

/-- ITS FALSE NEIGHBOUR: 'it returns false'. Refute it at one input. -/
def ldhKindsWrong : ChangeSpec := { name := "ldhKinds", fn := fun _ => fun
  | [d] => { results := [.lit (.bool false)], args := [d] }
  | _ => none }
def LdhKindsWrongFalsely : Prop := ldhKindsRow.holds Try.pinned (OpenSpec.ofChange ldhKindsWrong)

/-- 'paronymlaw11.LdhCuts': WHATEVER THE INPUT: true; the input reads as it did. -/
def ldhCutsSpec : ChangeSpec := { name := "ldhCuts", fn := fun _ => fun
  | [d1, d2] => { results := [.lit (.bool true)], args := [d1, d2] }
  | _ => none }
def ldhCutsRow : OpenClaim := { program := "ytooiajkbpkfplaa", sum := "b201e686f07d14bc916e4704c1adb75dba934f2580a91b4f2be2280500516d88", func := "paronym/paronymlaw11.LdhCuts", spec := "ldhCuts", unfollowed := true, recurses := true, apart := false }
def LdhCutsSaid : Prop := ldhCutsRow.holds Try.pinned (OpenSpec.ofChange ldhCutsSpec)

/-- ITS FALSE NEIGHBOUR: 'it returns false'. Refute it at one input. -/
def ldhCutsWrong : ChangeSpec := { name := "ldhCuts", fn := fun _ => fun
  | [d1, d2] => { results := [.lit (.bool false)], args := [d1, d2] }
  | _ => none }
def LdhCutsWrongFalsely : Prop := ldhCutsRow.holds Try.pinned (OpenSpec.ofChange ldhCutsWrong)

/-- 'paronymlaw11.LdhHyphens': WHATEVER THE INPUT: true; the input reads as it did. -/
def ldhHyphensSpec : ChangeSpec := { name := "ldhHyphens", fn := fun _ => fun
  | [d1, d2] => { results := [.lit (.bool true)], args := [d1, d2] }
  | _ => none }
def ldhHyphensRow : OpenClaim := { program := "ytooiajkbpkfplaa", sum := "b201e686f07d14bc916e4704c1adb75dba934f2580a91b4f2be2280500516d88", func := "paronym/paronymlaw11.LdhHyphens", spec := "ldhHyphens", unfollowed := true, recurses := true, apart := false }
def LdhHyphensSaid : Prop := ldhHyphensRow.holds Try.pinned (OpenSpec.ofChange ldhHyphensSpec)

/-- ITS FALSE NEIGHBOUR: 'it returns false'. Refute it at one input. -/
def ldhHyphensWrong : ChangeSpec := { name := "ldhHyphens", fn := fun _ => fun
  | [d1, d2] => { results := [.lit (.bool false)], args := [d1, d2] }
  | _ => none }
def LdhHyphensWrongFalsely : Prop := ldhHyphensRow.holds Try.pinned (OpenSpec.ofChange ldhHyphensWrong)

/-- 'paronymlaw12.PunyPlain': WHATEVER THE INPUT: true; the input reads as it did. -/
def punyPlainSpec : ChangeSpec := { name := "punyPlain", fn := fun _ => fun
  | [d] => { results := [.lit (.bool true)], args := [d] }
  | _ => none }
def punyPlainRow : OpenClaim := { program := "ytooiajkbpkfplaa", sum := "b201e686f07d14bc916e4704c1adb75dba934f2580a91b4f2be2280500516d88", func := "paronym/paronymlaw12.PunyPlain", spec := "punyPlain", unfollowed := true, recurses := true, apart := false }
def PunyPlainSaid : Prop := punyPlainRow.holds Try.pinned (OpenSpec.ofChange punyPlainSpec)

/-- ITS FALSE NEIGHBOUR: 'it returns false'. Refute it at one input. -/
def punyPlainWrong : ChangeSpec := { name := "punyPlain", fn := fun _ => fun
  | [d] => { results := [.lit (.bool false)], args := [d] }
  | _ => none }
def PunyPlainWrongFalsely : Prop := punyPlainRow.holds Try.pinned (OpenSpec.ofChange punyPlainWrong)

/-- 'paronymlaw01.UtfEncodes': WHATEVER THE INPUT: true; the input reads as it did. -/
def utfEncodesSpec : ChangeSpec := { name := "utfEncodes", fn := fun _ => fun
  | [d] => { results := [.lit (.bool true)], args := [d] }
  | _ => none }
def utfEncodesRow : OpenClaim := { program := "ytooiajkbpkfplaa", sum := "b201e686f07d14bc916e4704c1adb75dba934f2580a91b4f2be2280500516d88", func := "paronym/paronymlaw01.UtfEncodes", spec := "utfEncodes", unfollowed := true, recurses := true, apart := false }
def UtfEncodesSaid : Prop := utfEncodesRow.holds Try.pinned (OpenSpec.ofChange utfEncodesSpec)

/-- ITS FALSE NEIGHBOUR: 'it returns false'. Refute it at one input. -/
def utfEncodesWrong : ChangeSpec := { name := "utfEncodes", fn := fun _ => fun
  | [d] => { results := [.lit (.bool false)], args := [d] }
  | _ => none }
def UtfEncodesWrongFalsely : Prop := utfEncodesRow.holds Try.pinned (OpenSpec.ofChange utfEncodesWrong)

/-- 'paronymlaw01.UtfDecodes': WHATEVER THE INPUT: true; the input reads as it did. -/
def utfDecodesSpec : ChangeSpec := { name := "utfDecodes", fn := fun _ => fun
  | [d] => { results := [.lit (.bool true)], args := [d] }
  | _ => none }
def utfDecodesRow : OpenClaim := { program := "ytooiajkbpkfplaa", sum := "b201e686f07d14bc916e4704c1adb75dba934f2580a91b4f2be2280500516d88", func := "paronym/paronymlaw01.UtfDecodes", spec := "utfDecodes", unfollowed := true, recurses := true, apart := false }
def UtfDecodesSaid : Prop := utfDecodesRow.holds Try.pinned (OpenSpec.ofChange utfDecodesSpec)

/-- ITS FALSE NEIGHBOUR: 'it returns false'. Refute it at one input. -/
def utfDecodesWrong : ChangeSpec := { name := "utfDecodes", fn := fun _ => fun
  | [d] => { results := [.lit (.bool false)], args := [d] }
  | _ => none }
def UtfDecodesWrongFalsely : Prop := utfDecodesRow.holds Try.pinned (OpenSpec.ofChange utfDecodesWrong)

/-- 'paronymlaw01.UtfPoints': WHATEVER THE INPUT: true; the input reads as it did. -/
def utfPointsSpec : ChangeSpec := { name := "utfPoints", fn := fun _ => fun
  | [d1, d2] => { results := [.lit (.bool true)], args := [d1, d2] }
  | _ => none }
def utfPointsRow : OpenClaim := { program := "ytooiajkbpkfplaa", sum := "b201e686f07d14bc916e4704c1adb75dba934f2580a91b4f2be2280500516d88", func := "paronym/paronymlaw01.UtfPoints", spec := "utfPoints", unfollowed := true, recurses := true, apart := false }
def UtfPointsSaid : Prop := utfPointsRow.holds Try.pinned (OpenSpec.ofChange utfPointsSpec)

/-- ITS FALSE NEIGHBOUR: 'it returns false'. Refute it at one input. -/
def utfPointsWrong : ChangeSpec := { name := "utfPoints", fn := fun _ => fun
  | [d1, d2] => { results := [.lit (.bool false)], args := [d1, d2] }
  | _ => none }
def UtfPointsWrongFalsely : Prop := utfPointsRow.holds Try.pinned (OpenSpec.ofChange utfPointsWrong)

/-- 'paronymlaw01.UtfJoins': WHATEVER THE INPUT: true; the input reads as it did. -/
def utfJoinsSpec : ChangeSpec := { name := "utfJoins", fn := fun _ => fun
  | [d1, d2] => { results := [.lit (.bool true)], args := [d1, d2] }
  | _ => none }
def utfJoinsRow : OpenClaim := { program := "ytooiajkbpkfplaa", sum := "b201e686f07d14bc916e4704c1adb75dba934f2580a91b4f2be2280500516d88", func := "paronym/paronymlaw01.UtfJoins", spec := "utfJoins", unfollowed := true, recurses := true, apart := false }
def UtfJoinsSaid : Prop := utfJoinsRow.holds Try.pinned (OpenSpec.ofChange utfJoinsSpec)

/-- ITS FALSE NEIGHBOUR: 'it returns false'. Refute it at one input. -/
def utfJoinsWrong : ChangeSpec := { name := "utfJoins", fn := fun _ => fun
  | [d1, d2] => { results := [.lit (.bool false)], args := [d1, d2] }
  | _ => none }
def UtfJoinsWrongFalsely : Prop := utfJoinsRow.holds Try.pinned (OpenSpec.ofChange utfJoinsWrong)

/-- 'paronymlaw01.UtfOrders': WHATEVER THE INPUT: true; the input reads as it did. -/
def utfOrdersSpec : ChangeSpec := { name := "utfOrders", fn := fun _ => fun
  | [d1, d2, d3] => { results := [.lit (.bool true)], args := [d1, d2, d3] }
  | _ => none }
def utfOrdersRow : OpenClaim := { program := "ytooiajkbpkfplaa", sum := "b201e686f07d14bc916e4704c1adb75dba934f2580a91b4f2be2280500516d88", func := "paronym/paronymlaw01.UtfOrders", spec := "utfOrders", unfollowed := true, recurses := true, apart := false }
def UtfOrdersSaid : Prop := utfOrdersRow.holds Try.pinned (OpenSpec.ofChange utfOrdersSpec)

/-- ITS FALSE NEIGHBOUR: 'it returns false'. Refute it at one input. -/
def utfOrdersWrong : ChangeSpec := { name := "utfOrders", fn := fun _ => fun
  | [d1, d2, d3] => { results := [.lit (.bool false)], args := [d1, d2, d3] }
  | _ => none }
def UtfOrdersWrongFalsely : Prop := utfOrdersRow.holds Try.pinned (OpenSpec.ofChange utfOrdersWrong)

/-- 'paronymlaw12.PunyEncodes': WHATEVER THE INPUT: true; the input reads as it did. -/
def punyEncodesSpec : ChangeSpec := { name := "punyEncodes", fn := fun _ => fun
  | [d] => { results := [.lit (.bool true)], args := [d] }
  | _ => none }
def punyEncodesRow : OpenClaim := { program := "ytooiajkbpkfplaa", sum := "b201e686f07d14bc916e4704c1adb75dba934f2580a91b4f2be2280500516d88", func := "paronym/paronymlaw12.PunyEncodes", spec := "punyEncodes", inPlace := ["internal/bytealg.IndexByteString", "slices.overlaps[int]"], unfollowed := true, recurses := true, apart := false }
def PunyEncodesSaid : Prop := punyEncodesRow.holds Try.pinned (OpenSpec.ofChange punyEncodesSpec)

/-- ITS FALSE NEIGHBOUR: 'it returns false'. Refute it at one input. -/
def punyEncodesWrong : ChangeSpec := { name := "punyEncodes", fn := fun _ => fun
  | [d] => { results := [.lit (.bool false)], args := [d] }
  | _ => none }
def PunyEncodesWrongFalsely : Prop := punyEncodesRow.holds Try.pinned (OpenSpec.ofChange punyEncodesWrong)

/-- 'paronymlaw12.PunyDecodes': WHATEVER THE INPUT: true; the input reads as it did. -/
def punyDecodesSpec : ChangeSpec := { name := "punyDecodes", fn := fun _ => fun
  | [d] => { results := [.lit (.bool true)], args := [d] }
  | _ => none }
def punyDecodesRow : OpenClaim := { program := "ytooiajkbpkfplaa", sum := "b201e686f07d14bc916e4704c1adb75dba934f2580a91b4f2be2280500516d88", func := "paronym/paronymlaw12.PunyDecodes", spec := "punyDecodes", inPlace := ["internal/bytealg.IndexByteString", "slices.overlaps[int]"], unfollowed := true, recurses := true, apart := false }
def PunyDecodesSaid : Prop := punyDecodesRow.holds Try.pinned (OpenSpec.ofChange punyDecodesSpec)

/-- ITS FALSE NEIGHBOUR: 'it returns false'. Refute it at one input. -/
def punyDecodesWrong : ChangeSpec := { name := "punyDecodes", fn := fun _ => fun
  | [d] => { results := [.lit (.bool false)], args := [d] }
  | _ => none }
def PunyDecodesWrongFalsely : Prop := punyDecodesRow.holds Try.pinned (OpenSpec.ofChange punyDecodesWrong)

/-- 'paronymlaw12.PunyOnce': WHATEVER THE INPUT: true; the input reads as it did. -/
def punyOnceSpec : ChangeSpec := { name := "punyOnce", fn := fun _ => fun
  | [d] => { results := [.lit (.bool true)], args := [d] }
  | _ => none }
def punyOnceRow : OpenClaim := { program := "ytooiajkbpkfplaa", sum := "b201e686f07d14bc916e4704c1adb75dba934f2580a91b4f2be2280500516d88", func := "paronym/paronymlaw12.PunyOnce", spec := "punyOnce", inPlace := ["internal/bytealg.IndexByteString", "slices.overlaps[int]"], unfollowed := true, recurses := true, apart := false }
def PunyOnceSaid : Prop := punyOnceRow.holds Try.pinned (OpenSpec.ofChange punyOnceSpec)

/-- ITS FALSE NEIGHBOUR: 'it returns false'. Refute it at one input. -/
def punyOnceWrong : ChangeSpec := { name := "punyOnce", fn := fun _ => fun
  | [d] => { results := [.lit (.bool false)], args := [d] }
  | _ => none }
def PunyOnceWrongFalsely : Prop := punyOnceRow.holds Try.pinned (OpenSpec.ofChange punyOnceWrong)

/- THE SECOND FORM. 'bulk': how many values and letters a reading holds, each counted each time it is reached (what is shared counts as often as it is met; a slice's spare places count too). A statement '..UptoSaid' is the law's where the arguments, and the package variables that the reading takes, are together of bulk at most 1048576: NARROWER than '..Said'. Prove '..Said' where nothing that the law and all that it calls make is longer than what came in: it says more and counts as full. Else prove '..UptoSaid'. A law counts once. -/
mutual
def uptoBulk {H : Type} : DataW H → Nat
  | .lit (.string bytes) => bytes.length + 1
  | .lit _ => 1
  | .nil => 1
  | .ptr d => uptoBulk d + 1
  | .slice elems spare => uptoBulkAll elems + uptoBulkAll spare + 1
  | .agg parts => uptoBulkAll parts + 1
  | .iface _ d => uptoBulk d + 1
  | .map entries => uptoBulkEntries entries + 1
  | .held _ => 1
def uptoBulkAll {H : Type} : List (DataW H) → Nat
  | [] => 0
  | d :: r => uptoBulk d + uptoBulkAll r
def uptoBulkEntries {H : Type} : List (Lit × DataW H) → Nat
  | [] => 0
  | x :: r => uptoBulkEntry x + uptoBulkEntries r
def uptoBulkEntry {H : Type} : Lit × DataW H → Nat
  | (.string bytes, d) => bytes.length + uptoBulk d + 1
  | (_, d) => uptoBulk d + 1
 end
def uptoSmall : (H : Type) → List (DataW H) → Bool := fun _ ds => decide (uptoBulkAll ds ≤ 1048576)
def OpenSpec.upto (s : _root_.Go.ChangeSpec) : _root_.Go.OpenSpec := { _root_.Go.OpenSpec.ofChange s with cond := some uptoSmall }

/-- 'paronymlaw11.LdhKinds', WHERE WHAT IT READS IS OF BULK AT MOST 1048576: true; the input reads as it did. -/
def ldhKindsUptoRow : OpenClaim := { program := "ytooiajkbpkfplaa", sum := "b201e686f07d14bc916e4704c1adb75dba934f2580a91b4f2be2280500516d88", func := "paronym/paronymlaw11.LdhKinds", spec := "ldhKinds", unfollowed := true, recurses := true, apart := false, narrowed := true }
def LdhKindsUptoSaid : Prop := ldhKindsUptoRow.holds Try.pinned (OpenSpec.upto ldhKindsSpec)

/-- 'paronymlaw11.LdhCuts', WHERE WHAT IT READS IS OF BULK AT MOST 1048576: true; the input reads as it did. -/
def ldhCutsUptoRow : OpenClaim := { program := "ytooiajkbpkfplaa", sum := "b201e686f07d14bc916e4704c1adb75dba934f2580a91b4f2be2280500516d88", func := "paronym/paronymlaw11.LdhCuts", spec := "ldhCuts", unfollowed := true, recurses := true, apart := false, narrowed := true }
def LdhCutsUptoSaid : Prop := ldhCutsUptoRow.holds Try.pinned (OpenSpec.upto ldhCutsSpec)

/-- 'paronymlaw11.LdhHyphens', WHERE WHAT IT READS IS OF BULK AT MOST 1048576: true; the input reads as it did. -/
def ldhHyphensUptoRow : OpenClaim := { program := "ytooiajkbpkfplaa", sum := "b201e686f07d14bc916e4704c1adb75dba934f2580a91b4f2be2280500516d88", func := "paronym/paronymlaw11.LdhHyphens", spec := "ldhHyphens", unfollowed := true, recurses := true, apart := false, narrowed := true }
def LdhHyphensUptoSaid : Prop := ldhHyphensUptoRow.holds Try.pinned (OpenSpec.upto ldhHyphensSpec)

/-- 'paronymlaw12.PunyPlain', WHERE WHAT IT READS IS OF BULK AT MOST 1048576: true; the input reads as it did. -/
def punyPlainUptoRow : OpenClaim := { program := "ytooiajkbpkfplaa", sum := "b201e686f07d14bc916e4704c1adb75dba934f2580a91b4f2be2280500516d88", func := "paronym/paronymlaw12.PunyPlain", spec := "punyPlain", unfollowed := true, recurses := true, apart := false, narrowed := true }
def PunyPlainUptoSaid : Prop := punyPlainUptoRow.holds Try.pinned (OpenSpec.upto punyPlainSpec)

/-- 'paronymlaw01.UtfEncodes', WHERE WHAT IT READS IS OF BULK AT MOST 1048576: true; the input reads as it did. -/
def utfEncodesUptoRow : OpenClaim := { program := "ytooiajkbpkfplaa", sum := "b201e686f07d14bc916e4704c1adb75dba934f2580a91b4f2be2280500516d88", func := "paronym/paronymlaw01.UtfEncodes", spec := "utfEncodes", unfollowed := true, recurses := true, apart := false, narrowed := true }
def UtfEncodesUptoSaid : Prop := utfEncodesUptoRow.holds Try.pinned (OpenSpec.upto utfEncodesSpec)

/-- 'paronymlaw01.UtfDecodes', WHERE WHAT IT READS IS OF BULK AT MOST 1048576: true; the input reads as it did. -/
def utfDecodesUptoRow : OpenClaim := { program := "ytooiajkbpkfplaa", sum := "b201e686f07d14bc916e4704c1adb75dba934f2580a91b4f2be2280500516d88", func := "paronym/paronymlaw01.UtfDecodes", spec := "utfDecodes", unfollowed := true, recurses := true, apart := false, narrowed := true }
def UtfDecodesUptoSaid : Prop := utfDecodesUptoRow.holds Try.pinned (OpenSpec.upto utfDecodesSpec)

/-- 'paronymlaw01.UtfPoints', WHERE WHAT IT READS IS OF BULK AT MOST 1048576: true; the input reads as it did. -/
def utfPointsUptoRow : OpenClaim := { program := "ytooiajkbpkfplaa", sum := "b201e686f07d14bc916e4704c1adb75dba934f2580a91b4f2be2280500516d88", func := "paronym/paronymlaw01.UtfPoints", spec := "utfPoints", unfollowed := true, recurses := true, apart := false, narrowed := true }
def UtfPointsUptoSaid : Prop := utfPointsUptoRow.holds Try.pinned (OpenSpec.upto utfPointsSpec)

/-- 'paronymlaw01.UtfJoins', WHERE WHAT IT READS IS OF BULK AT MOST 1048576: true; the input reads as it did. -/
def utfJoinsUptoRow : OpenClaim := { program := "ytooiajkbpkfplaa", sum := "b201e686f07d14bc916e4704c1adb75dba934f2580a91b4f2be2280500516d88", func := "paronym/paronymlaw01.UtfJoins", spec := "utfJoins", unfollowed := true, recurses := true, apart := false, narrowed := true }
def UtfJoinsUptoSaid : Prop := utfJoinsUptoRow.holds Try.pinned (OpenSpec.upto utfJoinsSpec)

/-- 'paronymlaw01.UtfOrders', WHERE WHAT IT READS IS OF BULK AT MOST 1048576: true; the input reads as it did. -/
def utfOrdersUptoRow : OpenClaim := { program := "ytooiajkbpkfplaa", sum := "b201e686f07d14bc916e4704c1adb75dba934f2580a91b4f2be2280500516d88", func := "paronym/paronymlaw01.UtfOrders", spec := "utfOrders", unfollowed := true, recurses := true, apart := false, narrowed := true }
def UtfOrdersUptoSaid : Prop := utfOrdersUptoRow.holds Try.pinned (OpenSpec.upto utfOrdersSpec)

/-- 'paronymlaw12.PunyEncodes', WHERE WHAT IT READS IS OF BULK AT MOST 1048576: true; the input reads as it did. -/
def punyEncodesUptoRow : OpenClaim := { program := "ytooiajkbpkfplaa", sum := "b201e686f07d14bc916e4704c1adb75dba934f2580a91b4f2be2280500516d88", func := "paronym/paronymlaw12.PunyEncodes", spec := "punyEncodes", inPlace := ["internal/bytealg.IndexByteString", "slices.overlaps[int]"], unfollowed := true, recurses := true, apart := false, narrowed := true }
def PunyEncodesUptoSaid : Prop := punyEncodesUptoRow.holds Try.pinned (OpenSpec.upto punyEncodesSpec)

/-- 'paronymlaw12.PunyDecodes', WHERE WHAT IT READS IS OF BULK AT MOST 1048576: true; the input reads as it did. -/
def punyDecodesUptoRow : OpenClaim := { program := "ytooiajkbpkfplaa", sum := "b201e686f07d14bc916e4704c1adb75dba934f2580a91b4f2be2280500516d88", func := "paronym/paronymlaw12.PunyDecodes", spec := "punyDecodes", inPlace := ["internal/bytealg.IndexByteString", "slices.overlaps[int]"], unfollowed := true, recurses := true, apart := false, narrowed := true }
def PunyDecodesUptoSaid : Prop := punyDecodesUptoRow.holds Try.pinned (OpenSpec.upto punyDecodesSpec)

/-- 'paronymlaw12.PunyOnce', WHERE WHAT IT READS IS OF BULK AT MOST 1048576: true; the input reads as it did. -/
def punyOnceUptoRow : OpenClaim := { program := "ytooiajkbpkfplaa", sum := "b201e686f07d14bc916e4704c1adb75dba934f2580a91b4f2be2280500516d88", func := "paronym/paronymlaw12.PunyOnce", spec := "punyOnce", inPlace := ["internal/bytealg.IndexByteString", "slices.overlaps[int]"], unfollowed := true, recurses := true, apart := false, narrowed := true }
def PunyOnceUptoSaid : Prop := punyOnceUptoRow.holds Try.pinned (OpenSpec.upto punyOnceSpec)

end Rows
end Go.Proofs.Ytooiajkbpkfplaa
