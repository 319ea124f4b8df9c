/-
  No cell of these rows narrows 'for every input' (looked for: loops, veiled, ifaces, maps, wideKeys, modest, calm, conditions, laid).
  DERIVED. THE GIVEN ROWS OF THIS SEAT. 8 by the template 'for every input the law returns true; each argument reads behind the call as it read before'; 0 by the template 'total and deterministic' (their statements: YtmbhafgnmdfjhaaTotals.lean).
  GIVEN WITH THE SEED: the statements are not yours to turn. If you find one false, say at which input.
  Laid BY PROGRAM, IN A SANDBOX (cutbox-rows.mjs): the forced cells as the released guide's own fill.sh prints them over the translation 8304ea85188b0c22… (all of the seat's roots in one cut). By AI agents, Wed Nov 11 2026. No macro, syntax, notation, axiom, sorry.
-/
import Derived.Test.YtmbhafgnmdfjhaaChecked
import GoSem.Claim
import GoSem.ClaimJoined
import GoSem.ClaimMapViews
import Derived.JoinedTies
import Derived.KernelRfl
namespace Go.Proofs.Ytmbhafgnmdfjhaa
/- THE CELL 'sum', in the pinned program and in every row, IS THE sha256 OF THE DUMP (.gsa) THAT YtmbhafgnmdfjhaaProg.lean LOADS. Nothing in Lean hashes anything: it is a label: what it is worth is what the hold of that sum in a sandbox is worth. -/
noncomputable def Try.pinned : Pinned := { name := "ytmbhafgnmdfjhaa", sum := "8304ea85188b0c227463ead69d20467bc416f91a829879f4709d5810ef5c0cac", checked := Try.checked }
namespace Rows
def none {H : Type} : Left H := { results := [], args := [] }

/-- 'dioramalaw09.TableChecks': WHATEVER THE INPUT: true; the input reads as it did. -/
def tableChecksSpec : ChangeSpec := { name := "tableChecks", fn := fun _ => fun
  | [d1, d2] => { results := [.lit (.bool true)], args := [d1, d2] }
  | _ => none }
def tableChecksRow : OpenClaim := { program := "ytmbhafgnmdfjhaa", sum := "8304ea85188b0c227463ead69d20467bc416f91a829879f4709d5810ef5c0cac", func := "diorama/dioramalaw09.TableChecks", spec := "tableChecks", unfollowed := true, recurses := true, apart := false }
def TableChecksSaid : Prop := tableChecksRow.holds Try.pinned (OpenSpec.ofChange tableChecksSpec)

/-- ITS FALSE NEIGHBOUR: 'it returns false'. Refute it at one input. -/
def tableChecksWrong : ChangeSpec := { name := "tableChecks", fn := fun _ => fun
  | [d1, d2] => { results := [.lit (.bool false)], args := [d1, d2] }
  | _ => none }
def TableChecksWrongFalsely : Prop := tableChecksRow.holds Try.pinned (OpenSpec.ofChange tableChecksWrong)

/-- 'dioramalaw09.TableRuns': WHATEVER THE INPUT: true; the input reads as it did. -/
def tableRunsSpec : ChangeSpec := { name := "tableRuns", fn := fun _ => fun
  | [d1, d2] => { results := [.lit (.bool true)], args := [d1, d2] }
  | _ => none }
def tableRunsRow : OpenClaim := { program := "ytmbhafgnmdfjhaa", sum := "8304ea85188b0c227463ead69d20467bc416f91a829879f4709d5810ef5c0cac", func := "diorama/dioramalaw09.TableRuns", spec := "tableRuns", unfollowed := true, recurses := true, apart := false }
def TableRunsSaid : Prop := tableRunsRow.holds Try.pinned (OpenSpec.ofChange tableRunsSpec)

/-- ITS FALSE NEIGHBOUR: 'it returns false'. Refute it at one input. -/
def tableRunsWrong : ChangeSpec := { name := "tableRuns", fn := fun _ => fun
  | [d1, d2] => { results := [.lit (.bool false)], args := [d1, d2] }
  | _ => none }
def TableRunsWrongFalsely : Prop := tableRunsRow.holds Try.pinned (OpenSpec.ofChange tableRunsWrong)

/-- 'dioramalaw09.TableExpands': WHATEVER THE INPUT: true; the input reads as it did. -/
def tableExpandsSpec : ChangeSpec := { name := "tableExpands", fn := fun _ => fun
  | [d1, d2] => { results := [.lit (.bool true)], args := [d1, d2] }
  | _ => none }
def tableExpandsRow : OpenClaim := { program := "ytmbhafgnmdfjhaa", sum := "8304ea85188b0c227463ead69d20467bc416f91a829879f4709d5810ef5c0cac", func := "diorama/dioramalaw09.TableExpands", spec := "tableExpands", unfollowed := true, recurses := true, apart := false }
def TableExpandsSaid : Prop := tableExpandsRow.holds Try.pinned (OpenSpec.ofChange tableExpandsSpec)

/-- ITS FALSE NEIGHBOUR: 'it returns false'. Refute it at one input. -/
def tableExpandsWrong : ChangeSpec := { name := "tableExpands", fn := fun _ => fun
  | [d1, d2] => { results := [.lit (.bool false)], args := [d1, d2] }
  | _ => none }
def TableExpandsWrongFalsely : Prop := tableExpandsRow.holds Try.pinned (OpenSpec.ofChange tableExpandsWrong)

/-- 'dioramalaw09.TableAsks': WHATEVER THE INPUT: true; the input reads as it did. -/
def tableAsksSpec : ChangeSpec := { name := "tableAsks", fn := fun _ => fun
  | [d] => { results := [.lit (.bool true)], args := [d] }
  | _ => none }
def tableAsksRow : OpenClaim := { program := "ytmbhafgnmdfjhaa", sum := "8304ea85188b0c227463ead69d20467bc416f91a829879f4709d5810ef5c0cac", func := "diorama/dioramalaw09.TableAsks", spec := "tableAsks", unfollowed := true, recurses := true, apart := false }
def TableAsksSaid : Prop := tableAsksRow.holds Try.pinned (OpenSpec.ofChange tableAsksSpec)

/-- ITS FALSE NEIGHBOUR: 'it returns false'. Refute it at one input. -/
def tableAsksWrong : ChangeSpec := { name := "tableAsks", fn := fun _ => fun
  | [d] => { results := [.lit (.bool false)], args := [d] }
  | _ => none }
def TableAsksWrongFalsely : Prop := tableAsksRow.holds Try.pinned (OpenSpec.ofChange tableAsksWrong)

/-- 'dioramalaw09.TableAgree': WHATEVER THE INPUT: true; the input reads as it did. -/
def tableAgreeSpec : ChangeSpec := { name := "tableAgree", fn := fun _ => fun
  | [d] => { results := [.lit (.bool true)], args := [d] }
  | _ => none }
def tableAgreeRow : OpenClaim := { program := "ytmbhafgnmdfjhaa", sum := "8304ea85188b0c227463ead69d20467bc416f91a829879f4709d5810ef5c0cac", func := "diorama/dioramalaw09.TableAgree", spec := "tableAgree", unfollowed := true, recurses := true, apart := false }
def TableAgreeSaid : Prop := tableAgreeRow.holds Try.pinned (OpenSpec.ofChange tableAgreeSpec)

/-- ITS FALSE NEIGHBOUR: 'it returns false'. Refute it at one input. -/
def tableAgreeWrong : ChangeSpec := { name := "tableAgree", fn := fun _ => fun
  | [d] => { results := [.lit (.bool false)], args := [d] }
  | _ => none }
def TableAgreeWrongFalsely : Prop := tableAgreeRow.holds Try.pinned (OpenSpec.ofChange tableAgreeWrong)

/-- 'dioramalaw09.TableMakes': WHATEVER THE INPUT: true; the input reads as it did. -/
def tableMakesSpec : ChangeSpec := { name := "tableMakes", fn := fun _ => fun
  | [d] => { results := [.lit (.bool true)], args := [d] }
  | _ => none }
def tableMakesRow : OpenClaim := { program := "ytmbhafgnmdfjhaa", sum := "8304ea85188b0c227463ead69d20467bc416f91a829879f4709d5810ef5c0cac", func := "diorama/dioramalaw09.TableMakes", spec := "tableMakes", unfollowed := true, recurses := true, apart := false }
def TableMakesSaid : Prop := tableMakesRow.holds Try.pinned (OpenSpec.ofChange tableMakesSpec)

/-- ITS FALSE NEIGHBOUR: 'it returns false'. Refute it at one input. -/
def tableMakesWrong : ChangeSpec := { name := "tableMakes", fn := fun _ => fun
  | [d] => { results := [.lit (.bool false)], args := [d] }
  | _ => none }
def TableMakesWrongFalsely : Prop := tableMakesRow.holds Try.pinned (OpenSpec.ofChange tableMakesWrong)

/-- 'dioramalaw09.TableLeast': WHATEVER THE INPUT: true; the input reads as it did. -/
def tableLeastSpec : ChangeSpec := { name := "tableLeast", fn := fun _ => fun
  | [d1, d2] => { results := [.lit (.bool true)], args := [d1, d2] }
  | _ => none }
def tableLeastRow : OpenClaim := { program := "ytmbhafgnmdfjhaa", sum := "8304ea85188b0c227463ead69d20467bc416f91a829879f4709d5810ef5c0cac", func := "diorama/dioramalaw09.TableLeast", spec := "tableLeast", unfollowed := true, recurses := true, apart := false }
def TableLeastSaid : Prop := tableLeastRow.holds Try.pinned (OpenSpec.ofChange tableLeastSpec)

/-- ITS FALSE NEIGHBOUR: 'it returns false'. Refute it at one input. -/
def tableLeastWrong : ChangeSpec := { name := "tableLeast", fn := fun _ => fun
  | [d1, d2] => { results := [.lit (.bool false)], args := [d1, d2] }
  | _ => none }
def TableLeastWrongFalsely : Prop := tableLeastRow.holds Try.pinned (OpenSpec.ofChange tableLeastWrong)

/-- 'dioramalaw09.TableBack': WHATEVER THE INPUT: true; the input reads as it did. -/
def tableBackSpec : ChangeSpec := { name := "tableBack", fn := fun _ => fun
  | [d1, d2] => { results := [.lit (.bool true)], args := [d1, d2] }
  | _ => none }
def tableBackRow : OpenClaim := { program := "ytmbhafgnmdfjhaa", sum := "8304ea85188b0c227463ead69d20467bc416f91a829879f4709d5810ef5c0cac", func := "diorama/dioramalaw09.TableBack", spec := "tableBack", unfollowed := true, recurses := true, apart := false }
def TableBackSaid : Prop := tableBackRow.holds Try.pinned (OpenSpec.ofChange tableBackSpec)

/-- ITS FALSE NEIGHBOUR: 'it returns false'. Refute it at one input. -/
def tableBackWrong : ChangeSpec := { name := "tableBack", fn := fun _ => fun
  | [d1, d2] => { results := [.lit (.bool false)], args := [d1, d2] }
  | _ => none }
def TableBackWrongFalsely : Prop := tableBackRow.holds Try.pinned (OpenSpec.ofChange tableBackWrong)

/- THE SECOND FORM. 'bulk': how many values and letters a reading holds, each counted each time it is reached (what is shared counts as often as it is met; a slice's spare places count too). A statement '..UptoSaid' is the law's where the arguments, and the package variables that the reading takes, are together of bulk at most 1048576: NARROWER than '..Said'. Prove '..Said' where nothing that the law and all that it calls make is longer than what came in: it says more and counts as full. Else prove '..UptoSaid'. A law counts once. -/
mutual
def uptoBulk {H : Type} : DataW H → Nat
  | .lit (.string bytes) => bytes.length + 1
  | .lit _ => 1
  | .nil => 1
  | .ptr d => uptoBulk d + 1
  | .slice elems spare => uptoBulkAll elems + uptoBulkAll spare + 1
  | .agg parts => uptoBulkAll parts + 1
  | .iface _ d => uptoBulk d + 1
  | .map entries => uptoBulkEntries entries + 1
  | .held _ => 1
def uptoBulkAll {H : Type} : List (DataW H) → Nat
  | [] => 0
  | d :: r => uptoBulk d + uptoBulkAll r
def uptoBulkEntries {H : Type} : List (Lit × DataW H) → Nat
  | [] => 0
  | x :: r => uptoBulkEntry x + uptoBulkEntries r
def uptoBulkEntry {H : Type} : Lit × DataW H → Nat
  | (.string bytes, d) => bytes.length + uptoBulk d + 1
  | (_, d) => uptoBulk d + 1
 end
def uptoSmall : (H : Type) → List (DataW H) → Bool := fun _ ds => decide (uptoBulkAll ds ≤ 1048576)
def OpenSpec.upto (s : _root_.Go.ChangeSpec) : _root_.Go.OpenSpec := { _root_.Go.OpenSpec.ofChange s with cond := some uptoSmall }

/-- 'dioramalaw09.TableChecks', WHERE WHAT IT READS IS OF BULK AT MOST 1048576: true; the input reads as it did. -/
def tableChecksUptoRow : OpenClaim := { program := "ytmbhafgnmdfjhaa", sum := "8304ea85188b0c227463ead69d20467bc416f91a829879f4709d5810ef5c0cac", func := "diorama/dioramalaw09.TableChecks", spec := "tableChecks", unfollowed := true, recurses := true, apart := false, narrowed := true }
def TableChecksUptoSaid : Prop := tableChecksUptoRow.holds Try.pinned (OpenSpec.upto tableChecksSpec)

/-- 'dioramalaw09.TableRuns', WHERE WHAT IT READS IS OF BULK AT MOST 1048576: true; the input reads as it did. -/
def tableRunsUptoRow : OpenClaim := { program := "ytmbhafgnmdfjhaa", sum := "8304ea85188b0c227463ead69d20467bc416f91a829879f4709d5810ef5c0cac", func := "diorama/dioramalaw09.TableRuns", spec := "tableRuns", unfollowed := true, recurses := true, apart := false, narrowed := true }
def TableRunsUptoSaid : Prop := tableRunsUptoRow.holds Try.pinned (OpenSpec.upto tableRunsSpec)

/-- 'dioramalaw09.TableExpands', WHERE WHAT IT READS IS OF BULK AT MOST 1048576: true; the input reads as it did. -/
def tableExpandsUptoRow : OpenClaim := { program := "ytmbhafgnmdfjhaa", sum := "8304ea85188b0c227463ead69d20467bc416f91a829879f4709d5810ef5c0cac", func := "diorama/dioramalaw09.TableExpands", spec := "tableExpands", unfollowed := true, recurses := true, apart := false, narrowed := true }
def TableExpandsUptoSaid : Prop := tableExpandsUptoRow.holds Try.pinned (OpenSpec.upto tableExpandsSpec)

/-- 'dioramalaw09.TableAsks', WHERE WHAT IT READS IS OF BULK AT MOST 1048576: true; the input reads as it did. -/
def tableAsksUptoRow : OpenClaim := { program := "ytmbhafgnmdfjhaa", sum := "8304ea85188b0c227463ead69d20467bc416f91a829879f4709d5810ef5c0cac", func := "diorama/dioramalaw09.TableAsks", spec := "tableAsks", unfollowed := true, recurses := true, apart := false, narrowed := true }
def TableAsksUptoSaid : Prop := tableAsksUptoRow.holds Try.pinned (OpenSpec.upto tableAsksSpec)

/-- 'dioramalaw09.TableAgree', WHERE WHAT IT READS IS OF BULK AT MOST 1048576: true; the input reads as it did. -/
def tableAgreeUptoRow : OpenClaim := { program := "ytmbhafgnmdfjhaa", sum := "8304ea85188b0c227463ead69d20467bc416f91a829879f4709d5810ef5c0cac", func := "diorama/dioramalaw09.TableAgree", spec := "tableAgree", unfollowed := true, recurses := true, apart := false, narrowed := true }
def TableAgreeUptoSaid : Prop := tableAgreeUptoRow.holds Try.pinned (OpenSpec.upto tableAgreeSpec)

/-- 'dioramalaw09.TableMakes', WHERE WHAT IT READS IS OF BULK AT MOST 1048576: true; the input reads as it did. -/
def tableMakesUptoRow : OpenClaim := { program := "ytmbhafgnmdfjhaa", sum := "8304ea85188b0c227463ead69d20467bc416f91a829879f4709d5810ef5c0cac", func := "diorama/dioramalaw09.TableMakes", spec := "tableMakes", unfollowed := true, recurses := true, apart := false, narrowed := true }
def TableMakesUptoSaid : Prop := tableMakesUptoRow.holds Try.pinned (OpenSpec.upto tableMakesSpec)

/-- 'dioramalaw09.TableLeast', WHERE WHAT IT READS IS OF BULK AT MOST 1048576: true; the input reads as it did. -/
def tableLeastUptoRow : OpenClaim := { program := "ytmbhafgnmdfjhaa", sum := "8304ea85188b0c227463ead69d20467bc416f91a829879f4709d5810ef5c0cac", func := "diorama/dioramalaw09.TableLeast", spec := "tableLeast", unfollowed := true, recurses := true, apart := false, narrowed := true }
def TableLeastUptoSaid : Prop := tableLeastUptoRow.holds Try.pinned (OpenSpec.upto tableLeastSpec)

/-- 'dioramalaw09.TableBack', WHERE WHAT IT READS IS OF BULK AT MOST 1048576: true; the input reads as it did. -/
def tableBackUptoRow : OpenClaim := { program := "ytmbhafgnmdfjhaa", sum := "8304ea85188b0c227463ead69d20467bc416f91a829879f4709d5810ef5c0cac", func := "diorama/dioramalaw09.TableBack", spec := "tableBack", unfollowed := true, recurses := true, apart := false, narrowed := true }
def TableBackUptoSaid : Prop := tableBackUptoRow.holds Try.pinned (OpenSpec.upto tableBackSpec)

end Rows
end Go.Proofs.Ytmbhafgnmdfjhaa
