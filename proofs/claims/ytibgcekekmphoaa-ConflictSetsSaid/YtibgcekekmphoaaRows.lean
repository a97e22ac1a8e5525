/-
  No cell of these rows narrows 'for every input' (looked for: loops, veiled, ifaces, maps, wideKeys, modest, calm, conditions, laid).
  DERIVED. THE GIVEN ROWS OF THIS SEAT. 8 by the template 'for every input the law returns true; each argument reads behind the call as it read before'; 0 by the template 'total and deterministic' (their statements: YtibgcekekmphoaaTotals.lean).
  GIVEN WITH THE SEED: the statements are not yours to turn. If you find one false, say at which input.
  Laid BY PROGRAM, IN A SANDBOX (cutbox-rows.mjs): the forced cells as the released guide's own fill.sh prints them over the translation 2228a2cd954392bc… (all of the seat's roots in one cut). By AI agents, Wed Nov 11 2026. No macro, syntax, notation, axiom, sorry.
-/
import Derived.Test.YtibgcekekmphoaaChecked
import GoSem.Claim
import GoSem.ClaimJoined
import GoSem.ClaimMapViews
import Derived.JoinedTies
import Derived.KernelRfl
namespace Go.Proofs.Ytibgcekekmphoaa
/- THE CELL 'sum', in the pinned program and in every row, IS THE sha256 OF THE DUMP (.gsa) THAT YtibgcekekmphoaaProg.lean LOADS. Nothing in Lean hashes anything: it is a label: what it is worth is what the hold of that sum in a sandbox is worth. -/
noncomputable def Try.pinned : Pinned := { name := "ytibgcekekmphoaa", sum := "2228a2cd954392bc16cd681ea60fdb5ecba5e7d6c1dc7f3c590f8e73fb09c83c", checked := Try.checked }
namespace Rows
def none {H : Type} : Left H := { results := [], args := [] }

/-- 'hopmeshlaw34.ConflictSums': WHATEVER THE INPUT: true; the input reads as it did. -/
def conflictSumsSpec : ChangeSpec := { name := "conflictSums", fn := fun _ => fun
  | [d1, d2, d3, d4] => { results := [.lit (.bool true)], args := [d1, d2, d3, d4] }
  | _ => none }
def conflictSumsRow : OpenClaim := { program := "ytibgcekekmphoaa", sum := "2228a2cd954392bc16cd681ea60fdb5ecba5e7d6c1dc7f3c590f8e73fb09c83c", func := "hopmesh/hopmeshlaw34.ConflictSums", spec := "conflictSums", unfollowed := true, recurses := true, apart := false }
def ConflictSumsSaid : Prop := conflictSumsRow.holds Try.pinned (OpenSpec.ofChange conflictSumsSpec)

/-- ITS FALSE NEIGHBOUR: 'it returns false'. Refute it at one input. -/
def conflictSumsWrong : ChangeSpec := { name := "conflictSums", fn := fun _ => fun
  | [d1, d2, d3, d4] => { results := [.lit (.bool false)], args := [d1, d2, d3, d4] }
  | _ => none }
def ConflictSumsWrongFalsely : Prop := conflictSumsRow.holds Try.pinned (OpenSpec.ofChange conflictSumsWrong)

/-- 'hopmeshlaw34.ConflictHears': WHATEVER THE INPUT: true; the input reads as it did. -/
def conflictHearsSpec : ChangeSpec := { name := "conflictHears", fn := fun _ => fun
  | [d1, d2] => { results := [.lit (.bool true)], args := [d1, d2] }
  | _ => none }
def conflictHearsRow : OpenClaim := { program := "ytibgcekekmphoaa", sum := "2228a2cd954392bc16cd681ea60fdb5ecba5e7d6c1dc7f3c590f8e73fb09c83c", func := "hopmesh/hopmeshlaw34.ConflictHears", spec := "conflictHears", unfollowed := true, recurses := true, apart := false }
def ConflictHearsSaid : Prop := conflictHearsRow.holds Try.pinned (OpenSpec.ofChange conflictHearsSpec)

/-- ITS FALSE NEIGHBOUR: 'it returns false'. Refute it at one input. -/
def conflictHearsWrong : ChangeSpec := { name := "conflictHears", fn := fun _ => fun
  | [d1, d2] => { results := [.lit (.bool false)], args := [d1, d2] }
  | _ => none }
def ConflictHearsWrongFalsely : Prop := conflictHearsRow.holds Try.pinned (OpenSpec.ofChange conflictHearsWrong)

/-- 'hopmeshlaw34.ConflictQuiet': WHATEVER THE INPUT: true; the input reads as it did. -/
def conflictQuietSpec : ChangeSpec := { name := "conflictQuiet", fn := fun _ => fun
  | [d1, d2, d3, d4, d5] => { results := [.lit (.bool true)], args := [d1, d2, d3, d4, d5] }
  | _ => none }
def conflictQuietRow : OpenClaim := { program := "ytibgcekekmphoaa", sum := "2228a2cd954392bc16cd681ea60fdb5ecba5e7d6c1dc7f3c590f8e73fb09c83c", func := "hopmesh/hopmeshlaw34.ConflictQuiet", spec := "conflictQuiet", unfollowed := true, recurses := true, apart := false }
def ConflictQuietSaid : Prop := conflictQuietRow.holds Try.pinned (OpenSpec.ofChange conflictQuietSpec)

/-- ITS FALSE NEIGHBOUR: 'it returns false'. Refute it at one input. -/
def conflictQuietWrong : ChangeSpec := { name := "conflictQuiet", fn := fun _ => fun
  | [d1, d2, d3, d4, d5] => { results := [.lit (.bool false)], args := [d1, d2, d3, d4, d5] }
  | _ => none }
def ConflictQuietWrongFalsely : Prop := conflictQuietRow.holds Try.pinned (OpenSpec.ofChange conflictQuietWrong)

/-- 'hopmeshlaw34.ConflictFaults': WHATEVER THE INPUT: true; the input reads as it did. -/
def conflictFaultsSpec : ChangeSpec := { name := "conflictFaults", fn := fun _ => fun
  | [d1, d2, d3, d4] => { results := [.lit (.bool true)], args := [d1, d2, d3, d4] }
  | _ => none }
def conflictFaultsRow : OpenClaim := { program := "ytibgcekekmphoaa", sum := "2228a2cd954392bc16cd681ea60fdb5ecba5e7d6c1dc7f3c590f8e73fb09c83c", func := "hopmesh/hopmeshlaw34.ConflictFaults", spec := "conflictFaults", unfollowed := true, recurses := true, apart := false }
def ConflictFaultsSaid : Prop := conflictFaultsRow.holds Try.pinned (OpenSpec.ofChange conflictFaultsSpec)

/-- ITS FALSE NEIGHBOUR: 'it returns false'. Refute it at one input. -/
def conflictFaultsWrong : ChangeSpec := { name := "conflictFaults", fn := fun _ => fun
  | [d1, d2, d3, d4] => { results := [.lit (.bool false)], args := [d1, d2, d3, d4] }
  | _ => none }
def ConflictFaultsWrongFalsely : Prop := conflictFaultsRow.holds Try.pinned (OpenSpec.ofChange conflictFaultsWrong)

/-- 'hopmeshlaw34.ConflictAlone': WHATEVER THE INPUT: true; the input reads as it did. -/
def conflictAloneSpec : ChangeSpec := { name := "conflictAlone", fn := fun _ => fun
  | [d1, d2] => { results := [.lit (.bool true)], args := [d1, d2] }
  | _ => none }
def conflictAloneRow : OpenClaim := { program := "ytibgcekekmphoaa", sum := "2228a2cd954392bc16cd681ea60fdb5ecba5e7d6c1dc7f3c590f8e73fb09c83c", func := "hopmesh/hopmeshlaw34.ConflictAlone", spec := "conflictAlone", unfollowed := true, recurses := true, apart := false }
def ConflictAloneSaid : Prop := conflictAloneRow.holds Try.pinned (OpenSpec.ofChange conflictAloneSpec)

/-- ITS FALSE NEIGHBOUR: 'it returns false'. Refute it at one input. -/
def conflictAloneWrong : ChangeSpec := { name := "conflictAlone", fn := fun _ => fun
  | [d1, d2] => { results := [.lit (.bool false)], args := [d1, d2] }
  | _ => none }
def ConflictAloneWrongFalsely : Prop := conflictAloneRow.holds Try.pinned (OpenSpec.ofChange conflictAloneWrong)

/-- 'hopmeshlaw34.ConflictParts': WHATEVER THE INPUT: true; the input reads as it did. -/
def conflictPartsSpec : ChangeSpec := { name := "conflictParts", fn := fun _ => fun
  | [d1, d2, d3] => { results := [.lit (.bool true)], args := [d1, d2, d3] }
  | _ => none }
def conflictPartsRow : OpenClaim := { program := "ytibgcekekmphoaa", sum := "2228a2cd954392bc16cd681ea60fdb5ecba5e7d6c1dc7f3c590f8e73fb09c83c", func := "hopmesh/hopmeshlaw34.ConflictParts", spec := "conflictParts", unfollowed := true, recurses := true, apart := false }
def ConflictPartsSaid : Prop := conflictPartsRow.holds Try.pinned (OpenSpec.ofChange conflictPartsSpec)

/-- ITS FALSE NEIGHBOUR: 'it returns false'. Refute it at one input. -/
def conflictPartsWrong : ChangeSpec := { name := "conflictParts", fn := fun _ => fun
  | [d1, d2, d3] => { results := [.lit (.bool false)], args := [d1, d2, d3] }
  | _ => none }
def ConflictPartsWrongFalsely : Prop := conflictPartsRow.holds Try.pinned (OpenSpec.ofChange conflictPartsWrong)

/-- 'hopmeshlaw34.ConflictLargest': WHATEVER THE INPUT: true; the input reads as it did. -/
def conflictLargestSpec : ChangeSpec := { name := "conflictLargest", fn := fun _ => fun
  | [d1, d2, d3] => { results := [.lit (.bool true)], args := [d1, d2, d3] }
  | _ => none }
def conflictLargestRow : OpenClaim := { program := "ytibgcekekmphoaa", sum := "2228a2cd954392bc16cd681ea60fdb5ecba5e7d6c1dc7f3c590f8e73fb09c83c", func := "hopmesh/hopmeshlaw34.ConflictLargest", spec := "conflictLargest", unfollowed := true, recurses := true, apart := false }
def ConflictLargestSaid : Prop := conflictLargestRow.holds Try.pinned (OpenSpec.ofChange conflictLargestSpec)

/-- ITS FALSE NEIGHBOUR: 'it returns false'. Refute it at one input. -/
def conflictLargestWrong : ChangeSpec := { name := "conflictLargest", fn := fun _ => fun
  | [d1, d2, d3] => { results := [.lit (.bool false)], args := [d1, d2, d3] }
  | _ => none }
def ConflictLargestWrongFalsely : Prop := conflictLargestRow.holds Try.pinned (OpenSpec.ofChange conflictLargestWrong)

/-- 'hopmeshlaw34.ConflictSets': WHATEVER THE INPUT: true; the input reads as it did. -/
def conflictSetsSpec : ChangeSpec := { name := "conflictSets", fn := fun _ => fun
  | [d1, d2] => { results := [.lit (.bool true)], args := [d1, d2] }
  | _ => none }
def conflictSetsRow : OpenClaim := { program := "ytibgcekekmphoaa", sum := "2228a2cd954392bc16cd681ea60fdb5ecba5e7d6c1dc7f3c590f8e73fb09c83c", func := "hopmesh/hopmeshlaw34.ConflictSets", spec := "conflictSets", unfollowed := true, recurses := true, apart := false }
def ConflictSetsSaid : Prop := conflictSetsRow.holds Try.pinned (OpenSpec.ofChange conflictSetsSpec)

/-- ITS FALSE NEIGHBOUR: 'it returns false'. Refute it at one input. -/
def conflictSetsWrong : ChangeSpec := { name := "conflictSets", fn := fun _ => fun
  | [d1, d2] => { results := [.lit (.bool false)], args := [d1, d2] }
  | _ => none }
def ConflictSetsWrongFalsely : Prop := conflictSetsRow.holds Try.pinned (OpenSpec.ofChange conflictSetsWrong)

/- THE SECOND FORM. 'bulk': how many values and letters a reading holds, each counted each time it is reached (what is shared counts as often as it is met; a slice's spare places count too). A statement '..UptoSaid' is the law's where the arguments, and the package variables that the reading takes, are together of bulk at most 1048576: NARROWER than '..Said'. Prove '..Said' where nothing that the law and all that it calls make is longer than what came in: it says more and counts as full. Else prove '..UptoSaid'. A law counts once. -/
mutual
def uptoBulk {H : Type} : DataW H → Nat
  | .lit (.string bytes) => bytes.length + 1
  | .lit _ => 1
  | .nil => 1
  | .ptr d => uptoBulk d + 1
  | .slice elems spare => uptoBulkAll elems + uptoBulkAll spare + 1
  | .agg parts => uptoBulkAll parts + 1
  | .iface _ d => uptoBulk d + 1
  | .map entries => uptoBulkEntries entries + 1
  | .held _ => 1
def uptoBulkAll {H : Type} : List (DataW H) → Nat
  | [] => 0
  | d :: r => uptoBulk d + uptoBulkAll r
def uptoBulkEntries {H : Type} : List (Lit × DataW H) → Nat
  | [] => 0
  | x :: r => uptoBulkEntry x + uptoBulkEntries r
def uptoBulkEntry {H : Type} : Lit × DataW H → Nat
  | (.string bytes, d) => bytes.length + uptoBulk d + 1
  | (_, d) => uptoBulk d + 1
 end
def uptoSmall : (H : Type) → List (DataW H) → Bool := fun _ ds => decide (uptoBulkAll ds ≤ 1048576)
def OpenSpec.upto (s : _root_.Go.ChangeSpec) : _root_.Go.OpenSpec := { _root_.Go.OpenSpec.ofChange s with cond := some uptoSmall }

/-- 'hopmeshlaw34.ConflictSums', WHERE WHAT IT READS IS OF BULK AT MOST 1048576: true; the input reads as it did. -/
def conflictSumsUptoRow : OpenClaim := { program := "ytibgcekekmphoaa", sum := "2228a2cd954392bc16cd681ea60fdb5ecba5e7d6c1dc7f3c590f8e73fb09c83c", func := "hopmesh/hopmeshlaw34.ConflictSums", spec := "conflictSums", unfollowed := true, recurses := true, apart := false, narrowed := true }
def ConflictSumsUptoSaid : Prop := conflictSumsUptoRow.holds Try.pinned (OpenSpec.upto conflictSumsSpec)

/-- 'hopmeshlaw34.ConflictHears', WHERE WHAT IT READS IS OF BULK AT MOST 1048576: true; the input reads as it did. -/
def conflictHearsUptoRow : OpenClaim := { program := "ytibgcekekmphoaa", sum := "2228a2cd954392bc16cd681ea60fdb5ecba5e7d6c1dc7f3c590f8e73fb09c83c", func := "hopmesh/hopmeshlaw34.ConflictHears", spec := "conflictHears", unfollowed := true, recurses := true, apart := false, narrowed := true }
def ConflictHearsUptoSaid : Prop := conflictHearsUptoRow.holds Try.pinned (OpenSpec.upto conflictHearsSpec)

/-- 'hopmeshlaw34.ConflictQuiet', WHERE WHAT IT READS IS OF BULK AT MOST 1048576: true; the input reads as it did. -/
def conflictQuietUptoRow : OpenClaim := { program := "ytibgcekekmphoaa", sum := "2228a2cd954392bc16cd681ea60fdb5ecba5e7d6c1dc7f3c590f8e73fb09c83c", func := "hopmesh/hopmeshlaw34.ConflictQuiet", spec := "conflictQuiet", unfollowed := true, recurses := true, apart := false, narrowed := true }
def ConflictQuietUptoSaid : Prop := conflictQuietUptoRow.holds Try.pinned (OpenSpec.upto conflictQuietSpec)

/-- 'hopmeshlaw34.ConflictFaults', WHERE WHAT IT READS IS OF BULK AT MOST 1048576: true; the input reads as it did. -/
def conflictFaultsUptoRow : OpenClaim := { program := "ytibgcekekmphoaa", sum := "2228a2cd954392bc16cd681ea60fdb5ecba5e7d6c1dc7f3c590f8e73fb09c83c", func := "hopmesh/hopmeshlaw34.ConflictFaults", spec := "conflictFaults", unfollowed := true, recurses := true, apart := false, narrowed := true }
def ConflictFaultsUptoSaid : Prop := conflictFaultsUptoRow.holds Try.pinned (OpenSpec.upto conflictFaultsSpec)

/-- 'hopmeshlaw34.ConflictAlone', WHERE WHAT IT READS IS OF BULK AT MOST 1048576: true; the input reads as it did. -/
def conflictAloneUptoRow : OpenClaim := { program := "ytibgcekekmphoaa", sum := "2228a2cd954392bc16cd681ea60fdb5ecba5e7d6c1dc7f3c590f8e73fb09c83c", func := "hopmesh/hopmeshlaw34.ConflictAlone", spec := "conflictAlone", unfollowed := true, recurses := true, apart := false, narrowed := true }
def ConflictAloneUptoSaid : Prop := conflictAloneUptoRow.holds Try.pinned (OpenSpec.upto conflictAloneSpec)

/-- 'hopmeshlaw34.ConflictParts', WHERE WHAT IT READS IS OF BULK AT MOST 1048576: true; the input reads as it did. -/
def conflictPartsUptoRow : OpenClaim := { program := "ytibgcekekmphoaa", sum := "2228a2cd954392bc16cd681ea60fdb5ecba5e7d6c1dc7f3c590f8e73fb09c83c", func := "hopmesh/hopmeshlaw34.ConflictParts", spec := "conflictParts", unfollowed := true, recurses := true, apart := false, narrowed := true }
def ConflictPartsUptoSaid : Prop := conflictPartsUptoRow.holds Try.pinned (OpenSpec.upto conflictPartsSpec)

/-- 'hopmeshlaw34.ConflictLargest', WHERE WHAT IT READS IS OF BULK AT MOST 1048576: true; the input reads as it did. -/
def conflictLargestUptoRow : OpenClaim := { program := "ytibgcekekmphoaa", sum := "2228a2cd954392bc16cd681ea60fdb5ecba5e7d6c1dc7f3c590f8e73fb09c83c", func := "hopmesh/hopmeshlaw34.ConflictLargest", spec := "conflictLargest", unfollowed := true, recurses := true, apart := false, narrowed := true }
def ConflictLargestUptoSaid : Prop := conflictLargestUptoRow.holds Try.pinned (OpenSpec.upto conflictLargestSpec)

/-- 'hopmeshlaw34.ConflictSets', WHERE WHAT IT READS IS OF BULK AT MOST 1048576: true; the input reads as it did. -/
def conflictSetsUptoRow : OpenClaim := { program := "ytibgcekekmphoaa", sum := "2228a2cd954392bc16cd681ea60fdb5ecba5e7d6c1dc7f3c590f8e73fb09c83c", func := "hopmesh/hopmeshlaw34.ConflictSets", spec := "conflictSets", unfollowed := true, recurses := true, apart := false, narrowed := true }
def ConflictSetsUptoSaid : Prop := conflictSetsUptoRow.holds Try.pinned (OpenSpec.upto conflictSetsSpec)

end Rows
end Go.Proofs.Ytibgcekekmphoaa
