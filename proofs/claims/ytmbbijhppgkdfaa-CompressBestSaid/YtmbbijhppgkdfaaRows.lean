/-
  No cell of these rows narrows 'for every input' (looked for: loops, veiled, ifaces, maps, wideKeys, modest, calm, conditions, laid).
  DERIVED. THE GIVEN ROWS OF THIS SEAT. 7 by the template 'for every input the law returns true; each argument reads behind the call as it read before'; 0 by the template 'total and deterministic' (their statements: YtmbbijhppgkdfaaTotals.lean).
  GIVEN WITH THE SEED: the statements are not yours to turn. If you find one false, say at which input.
  Laid BY PROGRAM, IN A SANDBOX (cutbox-rows.mjs): the forced cells as the released guide's own fill.sh prints them over the translation 60b2dadc3cfb8835… (all of the seat's roots in one cut). By AI agents, Wed Nov 11 2026. No macro, syntax, notation, axiom, sorry.
-/
import Derived.Test.YtmbbijhppgkdfaaChecked
import GoSem.Claim
import GoSem.ClaimJoined
import GoSem.ClaimMapViews
import Derived.JoinedTies
import Derived.KernelRfl
namespace Go.Proofs.Ytmbbijhppgkdfaa
/- THE CELL 'sum', in the pinned program and in every row, IS THE sha256 OF THE DUMP (.gsa) THAT YtmbbijhppgkdfaaProg.lean LOADS. Nothing in Lean hashes anything: it is a label: what it is worth is what the hold of that sum in a sandbox is worth. -/
noncomputable def Try.pinned : Pinned := { name := "ytmbbijhppgkdfaa", sum := "60b2dadc3cfb88350ad6ac587c9064c68b5349460fb58a5b0528d0846d3ace36", checked := Try.checked }
namespace Rows
def none {H : Type} : Left H := { results := [], args := [] }

/-- 'hopmeshlaw14.CompressShorter': WHATEVER THE INPUT: true; the input reads as it did. -/
def compressShorterSpec : ChangeSpec := { name := "compressShorter", fn := fun _ => fun
  | [d1, d2, d3] => { results := [.lit (.bool true)], args := [d1, d2, d3] }
  | _ => none }
def compressShorterRow : OpenClaim := { program := "ytmbbijhppgkdfaa", sum := "60b2dadc3cfb88350ad6ac587c9064c68b5349460fb58a5b0528d0846d3ace36", func := "hopmesh/hopmeshlaw14.CompressShorter", spec := "compressShorter", unfollowed := true, recurses := true, apart := false }
def CompressShorterSaid : Prop := compressShorterRow.holds Try.pinned (OpenSpec.ofChange compressShorterSpec)

/-- ITS FALSE NEIGHBOUR: 'it returns false'. Refute it at one input. -/
def compressShorterWrong : ChangeSpec := { name := "compressShorter", fn := fun _ => fun
  | [d1, d2, d3] => { results := [.lit (.bool false)], args := [d1, d2, d3] }
  | _ => none }
def CompressShorterWrongFalsely : Prop := compressShorterRow.holds Try.pinned (OpenSpec.ofChange compressShorterWrong)

/-- 'hopmeshlaw14.CompressWrites': WHATEVER THE INPUT: true; the input reads as it did. -/
def compressWritesSpec : ChangeSpec := { name := "compressWrites", fn := fun _ => fun
  | [d1, d2] => { results := [.lit (.bool true)], args := [d1, d2] }
  | _ => none }
def compressWritesRow : OpenClaim := { program := "ytmbbijhppgkdfaa", sum := "60b2dadc3cfb88350ad6ac587c9064c68b5349460fb58a5b0528d0846d3ace36", func := "hopmesh/hopmeshlaw14.CompressWrites", spec := "compressWrites", unfollowed := true, recurses := true, apart := false }
def CompressWritesSaid : Prop := compressWritesRow.holds Try.pinned (OpenSpec.ofChange compressWritesSpec)

/-- ITS FALSE NEIGHBOUR: 'it returns false'. Refute it at one input. -/
def compressWritesWrong : ChangeSpec := { name := "compressWrites", fn := fun _ => fun
  | [d1, d2] => { results := [.lit (.bool false)], args := [d1, d2] }
  | _ => none }
def CompressWritesWrongFalsely : Prop := compressWritesRow.holds Try.pinned (OpenSpec.ofChange compressWritesWrong)

/-- 'hopmeshlaw14.CompressFinds': WHATEVER THE INPUT: true; the input reads as it did. -/
def compressFindsSpec : ChangeSpec := { name := "compressFinds", fn := fun _ => fun
  | [d1, d2] => { results := [.lit (.bool true)], args := [d1, d2] }
  | _ => none }
def compressFindsRow : OpenClaim := { program := "ytmbbijhppgkdfaa", sum := "60b2dadc3cfb88350ad6ac587c9064c68b5349460fb58a5b0528d0846d3ace36", func := "hopmesh/hopmeshlaw14.CompressFinds", spec := "compressFinds", unfollowed := true, recurses := true, apart := false }
def CompressFindsSaid : Prop := compressFindsRow.holds Try.pinned (OpenSpec.ofChange compressFindsSpec)

/-- ITS FALSE NEIGHBOUR: 'it returns false'. Refute it at one input. -/
def compressFindsWrong : ChangeSpec := { name := "compressFinds", fn := fun _ => fun
  | [d1, d2] => { results := [.lit (.bool false)], args := [d1, d2] }
  | _ => none }
def CompressFindsWrongFalsely : Prop := compressFindsRow.holds Try.pinned (OpenSpec.ofChange compressFindsWrong)

/-- 'hopmeshlaw14.CompressReads': WHATEVER THE INPUT: true; the input reads as it did. -/
def compressReadsSpec : ChangeSpec := { name := "compressReads", fn := fun _ => fun
  | [d1, d2] => { results := [.lit (.bool true)], args := [d1, d2] }
  | _ => none }
def compressReadsRow : OpenClaim := { program := "ytmbbijhppgkdfaa", sum := "60b2dadc3cfb88350ad6ac587c9064c68b5349460fb58a5b0528d0846d3ace36", func := "hopmesh/hopmeshlaw14.CompressReads", spec := "compressReads", unfollowed := true, recurses := true, apart := false }
def CompressReadsSaid : Prop := compressReadsRow.holds Try.pinned (OpenSpec.ofChange compressReadsSpec)

/-- ITS FALSE NEIGHBOUR: 'it returns false'. Refute it at one input. -/
def compressReadsWrong : ChangeSpec := { name := "compressReads", fn := fun _ => fun
  | [d1, d2] => { results := [.lit (.bool false)], args := [d1, d2] }
  | _ => none }
def CompressReadsWrongFalsely : Prop := compressReadsRow.holds Try.pinned (OpenSpec.ofChange compressReadsWrong)

/-- 'hopmeshlaw14.CompressBack': WHATEVER THE INPUT: true; the input reads as it did. -/
def compressBackSpec : ChangeSpec := { name := "compressBack", fn := fun _ => fun
  | [d1, d2, d3] => { results := [.lit (.bool true)], args := [d1, d2, d3] }
  | _ => none }
def compressBackRow : OpenClaim := { program := "ytmbbijhppgkdfaa", sum := "60b2dadc3cfb88350ad6ac587c9064c68b5349460fb58a5b0528d0846d3ace36", func := "hopmesh/hopmeshlaw14.CompressBack", spec := "compressBack", unfollowed := true, recurses := true, apart := false }
def CompressBackSaid : Prop := compressBackRow.holds Try.pinned (OpenSpec.ofChange compressBackSpec)

/-- ITS FALSE NEIGHBOUR: 'it returns false'. Refute it at one input. -/
def compressBackWrong : ChangeSpec := { name := "compressBack", fn := fun _ => fun
  | [d1, d2, d3] => { results := [.lit (.bool false)], args := [d1, d2, d3] }
  | _ => none }
def CompressBackWrongFalsely : Prop := compressBackRow.holds Try.pinned (OpenSpec.ofChange compressBackWrong)

/-- 'hopmeshlaw14.CompressStrict': WHATEVER THE INPUT: true; the input reads as it did. -/
def compressStrictSpec : ChangeSpec := { name := "compressStrict", fn := fun _ => fun
  | [d1, d2] => { results := [.lit (.bool true)], args := [d1, d2] }
  | _ => none }
def compressStrictRow : OpenClaim := { program := "ytmbbijhppgkdfaa", sum := "60b2dadc3cfb88350ad6ac587c9064c68b5349460fb58a5b0528d0846d3ace36", func := "hopmesh/hopmeshlaw14.CompressStrict", spec := "compressStrict", unfollowed := true, recurses := true, apart := false }
def CompressStrictSaid : Prop := compressStrictRow.holds Try.pinned (OpenSpec.ofChange compressStrictSpec)

/-- ITS FALSE NEIGHBOUR: 'it returns false'. Refute it at one input. -/
def compressStrictWrong : ChangeSpec := { name := "compressStrict", fn := fun _ => fun
  | [d1, d2] => { results := [.lit (.bool false)], args := [d1, d2] }
  | _ => none }
def CompressStrictWrongFalsely : Prop := compressStrictRow.holds Try.pinned (OpenSpec.ofChange compressStrictWrong)

/-- 'hopmeshlaw14.CompressBest': WHATEVER THE INPUT: true; the input reads as it did. -/
def compressBestSpec : ChangeSpec := { name := "compressBest", fn := fun _ => fun
  | [d1, d2] => { results := [.lit (.bool true)], args := [d1, d2] }
  | _ => none }
def compressBestRow : OpenClaim := { program := "ytmbbijhppgkdfaa", sum := "60b2dadc3cfb88350ad6ac587c9064c68b5349460fb58a5b0528d0846d3ace36", func := "hopmesh/hopmeshlaw14.CompressBest", spec := "compressBest", unfollowed := true, recurses := true, apart := false }
def CompressBestSaid : Prop := compressBestRow.holds Try.pinned (OpenSpec.ofChange compressBestSpec)

/-- ITS FALSE NEIGHBOUR: 'it returns false'. Refute it at one input. -/
def compressBestWrong : ChangeSpec := { name := "compressBest", fn := fun _ => fun
  | [d1, d2] => { results := [.lit (.bool false)], args := [d1, d2] }
  | _ => none }
def CompressBestWrongFalsely : Prop := compressBestRow.holds Try.pinned (OpenSpec.ofChange compressBestWrong)

/- THE SECOND FORM. 'bulk': how many values and letters a reading holds, each counted each time it is reached (what is shared counts as often as it is met; a slice's spare places count too). A statement '..UptoSaid' is the law's where the arguments, and the package variables that the reading takes, are together of bulk at most 1048576: NARROWER than '..Said'. Prove '..Said' where nothing that the law and all that it calls make is longer than what came in: it says more and counts as full. Else prove '..UptoSaid'. A law counts once. -/
mutual
def uptoBulk {H : Type} : DataW H → Nat
  | .lit (.string bytes) => bytes.length + 1
  | .lit _ => 1
  | .nil => 1
  | .ptr d => uptoBulk d + 1
  | .slice elems spare => uptoBulkAll elems + uptoBulkAll spare + 1
  | .agg parts => uptoBulkAll parts + 1
  | .iface _ d => uptoBulk d + 1
  | .map entries => uptoBulkEntries entries + 1
  | .held _ => 1
def uptoBulkAll {H : Type} : List (DataW H) → Nat
  | [] => 0
  | d :: r => uptoBulk d + uptoBulkAll r
def uptoBulkEntries {H : Type} : List (Lit × DataW H) → Nat
  | [] => 0
  | x :: r => uptoBulkEntry x + uptoBulkEntries r
def uptoBulkEntry {H : Type} : Lit × DataW H → Nat
  | (.string bytes, d) => bytes.length + uptoBulk d + 1
  | (_, d) => uptoBulk d + 1
 end
def uptoSmall : (H : Type) → List (DataW H) → Bool := fun _ ds => decide (uptoBulkAll ds ≤ 1048576)
def OpenSpec.upto (s : _root_.Go.ChangeSpec) : _root_.Go.OpenSpec := { _root_.Go.OpenSpec.ofChange s with cond := some uptoSmall }

/-- 'hopmeshlaw14.CompressShorter', WHERE WHAT IT READS IS OF BULK AT MOST 1048576: true; the input reads as it did. -/
def compressShorterUptoRow : OpenClaim := { program := "ytmbbijhppgkdfaa", sum := "60b2dadc3cfb88350ad6ac587c9064c68b5349460fb58a5b0528d0846d3ace36", func := "hopmesh/hopmeshlaw14.CompressShorter", spec := "compressShorter", unfollowed := true, recurses := true, apart := false, narrowed := true }
def CompressShorterUptoSaid : Prop := compressShorterUptoRow.holds Try.pinned (OpenSpec.upto compressShorterSpec)

/-- 'hopmeshlaw14.CompressWrites', WHERE WHAT IT READS IS OF BULK AT MOST 1048576: true; the input reads as it did. -/
def compressWritesUptoRow : OpenClaim := { program := "ytmbbijhppgkdfaa", sum := "60b2dadc3cfb88350ad6ac587c9064c68b5349460fb58a5b0528d0846d3ace36", func := "hopmesh/hopmeshlaw14.CompressWrites", spec := "compressWrites", unfollowed := true, recurses := true, apart := false, narrowed := true }
def CompressWritesUptoSaid : Prop := compressWritesUptoRow.holds Try.pinned (OpenSpec.upto compressWritesSpec)

/-- 'hopmeshlaw14.CompressFinds', WHERE WHAT IT READS IS OF BULK AT MOST 1048576: true; the input reads as it did. -/
def compressFindsUptoRow : OpenClaim := { program := "ytmbbijhppgkdfaa", sum := "60b2dadc3cfb88350ad6ac587c9064c68b5349460fb58a5b0528d0846d3ace36", func := "hopmesh/hopmeshlaw14.CompressFinds", spec := "compressFinds", unfollowed := true, recurses := true, apart := false, narrowed := true }
def CompressFindsUptoSaid : Prop := compressFindsUptoRow.holds Try.pinned (OpenSpec.upto compressFindsSpec)

/-- 'hopmeshlaw14.CompressReads', WHERE WHAT IT READS IS OF BULK AT MOST 1048576: true; the input reads as it did. -/
def compressReadsUptoRow : OpenClaim := { program := "ytmbbijhppgkdfaa", sum := "60b2dadc3cfb88350ad6ac587c9064c68b5349460fb58a5b0528d0846d3ace36", func := "hopmesh/hopmeshlaw14.CompressReads", spec := "compressReads", unfollowed := true, recurses := true, apart := false, narrowed := true }
def CompressReadsUptoSaid : Prop := compressReadsUptoRow.holds Try.pinned (OpenSpec.upto compressReadsSpec)

/-- 'hopmeshlaw14.CompressBack', WHERE WHAT IT READS IS OF BULK AT MOST 1048576: true; the input reads as it did. -/
def compressBackUptoRow : OpenClaim := { program := "ytmbbijhppgkdfaa", sum := "60b2dadc3cfb88350ad6ac587c9064c68b5349460fb58a5b0528d0846d3ace36", func := "hopmesh/hopmeshlaw14.CompressBack", spec := "compressBack", unfollowed := true, recurses := true, apart := false, narrowed := true }
def CompressBackUptoSaid : Prop := compressBackUptoRow.holds Try.pinned (OpenSpec.upto compressBackSpec)

/-- 'hopmeshlaw14.CompressStrict', WHERE WHAT IT READS IS OF BULK AT MOST 1048576: true; the input reads as it did. -/
def compressStrictUptoRow : OpenClaim := { program := "ytmbbijhppgkdfaa", sum := "60b2dadc3cfb88350ad6ac587c9064c68b5349460fb58a5b0528d0846d3ace36", func := "hopmesh/hopmeshlaw14.CompressStrict", spec := "compressStrict", unfollowed := true, recurses := true, apart := false, narrowed := true }
def CompressStrictUptoSaid : Prop := compressStrictUptoRow.holds Try.pinned (OpenSpec.upto compressStrictSpec)

/-- 'hopmeshlaw14.CompressBest', WHERE WHAT IT READS IS OF BULK AT MOST 1048576: true; the input reads as it did. -/
def compressBestUptoRow : OpenClaim := { program := "ytmbbijhppgkdfaa", sum := "60b2dadc3cfb88350ad6ac587c9064c68b5349460fb58a5b0528d0846d3ace36", func := "hopmesh/hopmeshlaw14.CompressBest", spec := "compressBest", unfollowed := true, recurses := true, apart := false, narrowed := true }
def CompressBestUptoSaid : Prop := compressBestUptoRow.holds Try.pinned (OpenSpec.upto compressBestSpec)

end Rows
end Go.Proofs.Ytmbbijhppgkdfaa
