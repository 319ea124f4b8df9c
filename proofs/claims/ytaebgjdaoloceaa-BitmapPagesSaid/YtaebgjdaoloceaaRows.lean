/-
  No cell of these rows narrows 'for every input' (looked for: loops, veiled, ifaces, maps, wideKeys, modest, calm, conditions, laid).
  DERIVED. THE GIVEN ROWS OF THIS SEAT. 8 by the template 'for every input the law returns true; each argument reads behind the call as it read before'; 0 by the template 'total and deterministic' (their statements: YtaebgjdaoloceaaTotals.lean).
  GIVEN WITH THE SEED: the statements are not yours to turn. If you find one false, say at which input.
  Laid BY PROGRAM, IN A SANDBOX (cutbox-rows.mjs): the forced cells as the released guide's own fill.sh prints them over the translation b531c8611d90c52c… (all of the seat's roots in one cut). By AI agents, Wed Nov 11 2026. No macro, syntax, notation, axiom, sorry.
-/
import Derived.Test.YtaebgjdaoloceaaChecked
import GoSem.Claim
import GoSem.ClaimJoined
import GoSem.ClaimMapViews
import Derived.JoinedTies
import Derived.KernelRfl
namespace Go.Proofs.Ytaebgjdaoloceaa
/- THE CELL 'sum', in the pinned program and in every row, IS THE sha256 OF THE DUMP (.gsa) THAT YtaebgjdaoloceaaProg.lean LOADS. Nothing in Lean hashes anything: it is a label: what it is worth is what the hold of that sum in a sandbox is worth. -/
noncomputable def Try.pinned : Pinned := { name := "ytaebgjdaoloceaa", sum := "b531c8611d90c52c1700dd006c6d9fc327f8328b4a534250f228af2d62f307d2", checked := Try.checked }
namespace Rows
def none {H : Type} : Left H := { results := [], args := [] }

/-- 'dioramalaw19.BitmapRuns': WHATEVER THE INPUT: true; the input reads as it did. -/
def bitmapRunsSpec : ChangeSpec := { name := "bitmapRuns", fn := fun _ => fun
  | [d] => { results := [.lit (.bool true)], args := [d] }
  | _ => none }
def bitmapRunsRow : OpenClaim := { program := "ytaebgjdaoloceaa", sum := "b531c8611d90c52c1700dd006c6d9fc327f8328b4a534250f228af2d62f307d2", func := "diorama/dioramalaw19.BitmapRuns", spec := "bitmapRuns", unfollowed := true, recurses := true, apart := false }
def BitmapRunsSaid : Prop := bitmapRunsRow.holds Try.pinned (OpenSpec.ofChange bitmapRunsSpec)

/-- ITS FALSE NEIGHBOUR: 'it returns false'. Refute it at one input. -/
def bitmapRunsWrong : ChangeSpec := { name := "bitmapRuns", fn := fun _ => fun
  | [d] => { results := [.lit (.bool false)], args := [d] }
  | _ => none }
def BitmapRunsWrongFalsely : Prop := bitmapRunsRow.holds Try.pinned (OpenSpec.ofChange bitmapRunsWrong)

/-- 'dioramalaw19.BitmapComposes': WHATEVER THE INPUT: true; the input reads as it did. -/
def bitmapComposesSpec : ChangeSpec := { name := "bitmapComposes", fn := fun _ => fun
  | [d1, d2, d3] => { results := [.lit (.bool true)], args := [d1, d2, d3] }
  | _ => none }
def bitmapComposesRow : OpenClaim := { program := "ytaebgjdaoloceaa", sum := "b531c8611d90c52c1700dd006c6d9fc327f8328b4a534250f228af2d62f307d2", func := "diorama/dioramalaw19.BitmapComposes", spec := "bitmapComposes", unfollowed := true, recurses := true, apart := false }
def BitmapComposesSaid : Prop := bitmapComposesRow.holds Try.pinned (OpenSpec.ofChange bitmapComposesSpec)

/-- ITS FALSE NEIGHBOUR: 'it returns false'. Refute it at one input. -/
def bitmapComposesWrong : ChangeSpec := { name := "bitmapComposes", fn := fun _ => fun
  | [d1, d2, d3] => { results := [.lit (.bool false)], args := [d1, d2, d3] }
  | _ => none }
def BitmapComposesWrongFalsely : Prop := bitmapComposesRow.holds Try.pinned (OpenSpec.ofChange bitmapComposesWrong)

/-- 'dioramalaw19.BitmapForgets': WHATEVER THE INPUT: true; the input reads as it did. -/
def bitmapForgetsSpec : ChangeSpec := { name := "bitmapForgets", fn := fun _ => fun
  | [d] => { results := [.lit (.bool true)], args := [d] }
  | _ => none }
def bitmapForgetsRow : OpenClaim := { program := "ytaebgjdaoloceaa", sum := "b531c8611d90c52c1700dd006c6d9fc327f8328b4a534250f228af2d62f307d2", func := "diorama/dioramalaw19.BitmapForgets", spec := "bitmapForgets", unfollowed := true, recurses := true, apart := false }
def BitmapForgetsSaid : Prop := bitmapForgetsRow.holds Try.pinned (OpenSpec.ofChange bitmapForgetsSpec)

/-- ITS FALSE NEIGHBOUR: 'it returns false'. Refute it at one input. -/
def bitmapForgetsWrong : ChangeSpec := { name := "bitmapForgets", fn := fun _ => fun
  | [d] => { results := [.lit (.bool false)], args := [d] }
  | _ => none }
def BitmapForgetsWrongFalsely : Prop := bitmapForgetsRow.holds Try.pinned (OpenSpec.ofChange bitmapForgetsWrong)

/-- 'dioramalaw19.BitmapReads': WHATEVER THE INPUT: true; the input reads as it did. -/
def bitmapReadsSpec : ChangeSpec := { name := "bitmapReads", fn := fun _ => fun
  | [d] => { results := [.lit (.bool true)], args := [d] }
  | _ => none }
def bitmapReadsRow : OpenClaim := { program := "ytaebgjdaoloceaa", sum := "b531c8611d90c52c1700dd006c6d9fc327f8328b4a534250f228af2d62f307d2", func := "diorama/dioramalaw19.BitmapReads", spec := "bitmapReads", unfollowed := true, recurses := true, apart := false }
def BitmapReadsSaid : Prop := bitmapReadsRow.holds Try.pinned (OpenSpec.ofChange bitmapReadsSpec)

/-- ITS FALSE NEIGHBOUR: 'it returns false'. Refute it at one input. -/
def bitmapReadsWrong : ChangeSpec := { name := "bitmapReads", fn := fun _ => fun
  | [d] => { results := [.lit (.bool false)], args := [d] }
  | _ => none }
def BitmapReadsWrongFalsely : Prop := bitmapReadsRow.holds Try.pinned (OpenSpec.ofChange bitmapReadsWrong)

/-- 'dioramalaw19.BitmapDraws': WHATEVER THE INPUT: true; the input reads as it did. -/
def bitmapDrawsSpec : ChangeSpec := { name := "bitmapDraws", fn := fun _ => fun
  | [d1, d2] => { results := [.lit (.bool true)], args := [d1, d2] }
  | _ => none }
def bitmapDrawsRow : OpenClaim := { program := "ytaebgjdaoloceaa", sum := "b531c8611d90c52c1700dd006c6d9fc327f8328b4a534250f228af2d62f307d2", func := "diorama/dioramalaw19.BitmapDraws", spec := "bitmapDraws", unfollowed := true, recurses := true, apart := false }
def BitmapDrawsSaid : Prop := bitmapDrawsRow.holds Try.pinned (OpenSpec.ofChange bitmapDrawsSpec)

/-- ITS FALSE NEIGHBOUR: 'it returns false'. Refute it at one input. -/
def bitmapDrawsWrong : ChangeSpec := { name := "bitmapDraws", fn := fun _ => fun
  | [d1, d2] => { results := [.lit (.bool false)], args := [d1, d2] }
  | _ => none }
def BitmapDrawsWrongFalsely : Prop := bitmapDrawsRow.holds Try.pinned (OpenSpec.ofChange bitmapDrawsWrong)

/-- 'dioramalaw19.BitmapBursts': WHATEVER THE INPUT: true; the input reads as it did. -/
def bitmapBurstsSpec : ChangeSpec := { name := "bitmapBursts", fn := fun _ => fun
  | [d1, d2, d3] => { results := [.lit (.bool true)], args := [d1, d2, d3] }
  | _ => none }
def bitmapBurstsRow : OpenClaim := { program := "ytaebgjdaoloceaa", sum := "b531c8611d90c52c1700dd006c6d9fc327f8328b4a534250f228af2d62f307d2", func := "diorama/dioramalaw19.BitmapBursts", spec := "bitmapBursts", unfollowed := true, recurses := true, apart := false }
def BitmapBurstsSaid : Prop := bitmapBurstsRow.holds Try.pinned (OpenSpec.ofChange bitmapBurstsSpec)

/-- ITS FALSE NEIGHBOUR: 'it returns false'. Refute it at one input. -/
def bitmapBurstsWrong : ChangeSpec := { name := "bitmapBursts", fn := fun _ => fun
  | [d1, d2, d3] => { results := [.lit (.bool false)], args := [d1, d2, d3] }
  | _ => none }
def BitmapBurstsWrongFalsely : Prop := bitmapBurstsRow.holds Try.pinned (OpenSpec.ofChange bitmapBurstsWrong)

/-- 'dioramalaw19.BitmapPages': WHATEVER THE INPUT: true; the input reads as it did. -/
def bitmapPagesSpec : ChangeSpec := { name := "bitmapPages", fn := fun _ => fun
  | [d1, d2] => { results := [.lit (.bool true)], args := [d1, d2] }
  | _ => none }
def bitmapPagesRow : OpenClaim := { program := "ytaebgjdaoloceaa", sum := "b531c8611d90c52c1700dd006c6d9fc327f8328b4a534250f228af2d62f307d2", func := "diorama/dioramalaw19.BitmapPages", spec := "bitmapPages", unfollowed := true, recurses := true, apart := false }
def BitmapPagesSaid : Prop := bitmapPagesRow.holds Try.pinned (OpenSpec.ofChange bitmapPagesSpec)

/-- ITS FALSE NEIGHBOUR: 'it returns false'. Refute it at one input. -/
def bitmapPagesWrong : ChangeSpec := { name := "bitmapPages", fn := fun _ => fun
  | [d1, d2] => { results := [.lit (.bool false)], args := [d1, d2] }
  | _ => none }
def BitmapPagesWrongFalsely : Prop := bitmapPagesRow.holds Try.pinned (OpenSpec.ofChange bitmapPagesWrong)

/-- 'dioramalaw19.BitmapWhole': WHATEVER THE INPUT: true; the input reads as it did. -/
def bitmapWholeSpec : ChangeSpec := { name := "bitmapWhole", fn := fun _ => fun
  | [d1, d2] => { results := [.lit (.bool true)], args := [d1, d2] }
  | _ => none }
def bitmapWholeRow : OpenClaim := { program := "ytaebgjdaoloceaa", sum := "b531c8611d90c52c1700dd006c6d9fc327f8328b4a534250f228af2d62f307d2", func := "diorama/dioramalaw19.BitmapWhole", spec := "bitmapWhole", unfollowed := true, recurses := true, apart := false }
def BitmapWholeSaid : Prop := bitmapWholeRow.holds Try.pinned (OpenSpec.ofChange bitmapWholeSpec)

/-- ITS FALSE NEIGHBOUR: 'it returns false'. Refute it at one input. -/
def bitmapWholeWrong : ChangeSpec := { name := "bitmapWhole", fn := fun _ => fun
  | [d1, d2] => { results := [.lit (.bool false)], args := [d1, d2] }
  | _ => none }
def BitmapWholeWrongFalsely : Prop := bitmapWholeRow.holds Try.pinned (OpenSpec.ofChange bitmapWholeWrong)

/- THE SECOND FORM. 'bulk': how many values and letters a reading holds, each counted each time it is reached (what is shared counts as often as it is met; a slice's spare places count too). A statement '..UptoSaid' is the law's where the arguments, and the package variables that the reading takes, are together of bulk at most 1048576: NARROWER than '..Said'. Prove '..Said' where nothing that the law and all that it calls make is longer than what came in: it says more and counts as full. Else prove '..UptoSaid'. A law counts once. -/
mutual
def uptoBulk {H : Type} : DataW H → Nat
  | .lit (.string bytes) => bytes.length + 1
  | .lit _ => 1
  | .nil => 1
  | .ptr d => uptoBulk d + 1
  | .slice elems spare => uptoBulkAll elems + uptoBulkAll spare + 1
  | .agg parts => uptoBulkAll parts + 1
  | .iface _ d => uptoBulk d + 1
  | .map entries => uptoBulkEntries entries + 1
  | .held _ => 1
def uptoBulkAll {H : Type} : List (DataW H) → Nat
  | [] => 0
  | d :: r => uptoBulk d + uptoBulkAll r
def uptoBulkEntries {H : Type} : List (Lit × DataW H) → Nat
  | [] => 0
  | x :: r => uptoBulkEntry x + uptoBulkEntries r
def uptoBulkEntry {H : Type} : Lit × DataW H → Nat
  | (.string bytes, d) => bytes.length + uptoBulk d + 1
  | (_, d) => uptoBulk d + 1
 end
def uptoSmall : (H : Type) → List (DataW H) → Bool := fun _ ds => decide (uptoBulkAll ds ≤ 1048576)
def OpenSpec.upto (s : _root_.Go.ChangeSpec) : _root_.Go.OpenSpec := { _root_.Go.OpenSpec.ofChange s with cond := some uptoSmall }

/-- 'dioramalaw19.BitmapRuns', WHERE WHAT IT READS IS OF BULK AT MOST 1048576: true; the input reads as it did. -/
def bitmapRunsUptoRow : OpenClaim := { program := "ytaebgjdaoloceaa", sum := "b531c8611d90c52c1700dd006c6d9fc327f8328b4a534250f228af2d62f307d2", func := "diorama/dioramalaw19.BitmapRuns", spec := "bitmapRuns", unfollowed := true, recurses := true, apart := false, narrowed := true }
def BitmapRunsUptoSaid : Prop := bitmapRunsUptoRow.holds Try.pinned (OpenSpec.upto bitmapRunsSpec)

/-- 'dioramalaw19.BitmapComposes', WHERE WHAT IT READS IS OF BULK AT MOST 1048576: true; the input reads as it did. -/
def bitmapComposesUptoRow : OpenClaim := { program := "ytaebgjdaoloceaa", sum := "b531c8611d90c52c1700dd006c6d9fc327f8328b4a534250f228af2d62f307d2", func := "diorama/dioramalaw19.BitmapComposes", spec := "bitmapComposes", unfollowed := true, recurses := true, apart := false, narrowed := true }
def BitmapComposesUptoSaid : Prop := bitmapComposesUptoRow.holds Try.pinned (OpenSpec.upto bitmapComposesSpec)

/-- 'dioramalaw19.BitmapForgets', WHERE WHAT IT READS IS OF BULK AT MOST 1048576: true; the input reads as it did. -/
def bitmapForgetsUptoRow : OpenClaim := { program := "ytaebgjdaoloceaa", sum := "b531c8611d90c52c1700dd006c6d9fc327f8328b4a534250f228af2d62f307d2", func := "diorama/dioramalaw19.BitmapForgets", spec := "bitmapForgets", unfollowed := true, recurses := true, apart := false, narrowed := true }
def BitmapForgetsUptoSaid : Prop := bitmapForgetsUptoRow.holds Try.pinned (OpenSpec.upto bitmapForgetsSpec)

/-- 'dioramalaw19.BitmapReads', WHERE WHAT IT READS IS OF BULK AT MOST 1048576: true; the input reads as it did. -/
def bitmapReadsUptoRow : OpenClaim := { program := "ytaebgjdaoloceaa", sum := "b531c8611d90c52c1700dd006c6d9fc327f8328b4a534250f228af2d62f307d2", func := "diorama/dioramalaw19.BitmapReads", spec := "bitmapReads", unfollowed := true, recurses := true, apart := false, narrowed := true }
def BitmapReadsUptoSaid : Prop := bitmapReadsUptoRow.holds Try.pinned (OpenSpec.upto bitmapReadsSpec)

/-- 'dioramalaw19.BitmapDraws', WHERE WHAT IT READS IS OF BULK AT MOST 1048576: true; the input reads as it did. -/
def bitmapDrawsUptoRow : OpenClaim := { program := "ytaebgjdaoloceaa", sum := "b531c8611d90c52c1700dd006c6d9fc327f8328b4a534250f228af2d62f307d2", func := "diorama/dioramalaw19.BitmapDraws", spec := "bitmapDraws", unfollowed := true, recurses := true, apart := false, narrowed := true }
def BitmapDrawsUptoSaid : Prop := bitmapDrawsUptoRow.holds Try.pinned (OpenSpec.upto bitmapDrawsSpec)

/-- 'dioramalaw19.BitmapBursts', WHERE WHAT IT READS IS OF BULK AT MOST 1048576: true; the input reads as it did. -/
def bitmapBurstsUptoRow : OpenClaim := { program := "ytaebgjdaoloceaa", sum := "b531c8611d90c52c1700dd006c6d9fc327f8328b4a534250f228af2d62f307d2", func := "diorama/dioramalaw19.BitmapBursts", spec := "bitmapBursts", unfollowed := true, recurses := true, apart := false, narrowed := true }
def BitmapBurstsUptoSaid : Prop := bitmapBurstsUptoRow.holds Try.pinned (OpenSpec.upto bitmapBurstsSpec)

/-- 'dioramalaw19.BitmapPages', WHERE WHAT IT READS IS OF BULK AT MOST 1048576: true; the input reads as it did. -/
def bitmapPagesUptoRow : OpenClaim := { program := "ytaebgjdaoloceaa", sum := "b531c8611d90c52c1700dd006c6d9fc327f8328b4a534250f228af2d62f307d2", func := "diorama/dioramalaw19.BitmapPages", spec := "bitmapPages", unfollowed := true, recurses := true, apart := false, narrowed := true }
def BitmapPagesUptoSaid : Prop := bitmapPagesUptoRow.holds Try.pinned (OpenSpec.upto bitmapPagesSpec)

/-- 'dioramalaw19.BitmapWhole', WHERE WHAT IT READS IS OF BULK AT MOST 1048576: true; the input reads as it did. -/
def bitmapWholeUptoRow : OpenClaim := { program := "ytaebgjdaoloceaa", sum := "b531c8611d90c52c1700dd006c6d9fc327f8328b4a534250f228af2d62f307d2", func := "diorama/dioramalaw19.BitmapWhole", spec := "bitmapWhole", unfollowed := true, recurses := true, apart := false, narrowed := true }
def BitmapWholeUptoSaid : Prop := bitmapWholeUptoRow.holds Try.pinned (OpenSpec.upto bitmapWholeSpec)

end Rows
end Go.Proofs.Ytaebgjdaoloceaa
