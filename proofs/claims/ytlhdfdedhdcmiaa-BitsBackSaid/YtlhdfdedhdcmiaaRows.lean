/-
  No cell of these rows narrows 'for every input' (looked for: loops, veiled, ifaces, maps, wideKeys, modest, calm, conditions, laid).
  DERIVED. THE GIVEN ROWS OF THIS SEAT. 10 by the template 'for every input the law returns true; each argument reads behind the call as it read before'; 0 by the template 'total and deterministic' (their statements: YtlhdfdedhdcmiaaTotals.lean).
  GIVEN WITH THE SEED: the statements are not yours to turn. If you find one false, say at which input.
  Laid BY PROGRAM, IN A SANDBOX (cutbox-rows.mjs): the forced cells as the released guide's own fill.sh prints them over the translation 32a4c39ebbaabf30… (all of the seat's roots in one cut). By AI agents, Wed Nov 11 2026. No macro, syntax, notation, axiom, sorry.
-/
import Derived.Test.YtlhdfdedhdcmiaaChecked
import GoSem.Claim
import GoSem.ClaimJoined
import GoSem.ClaimMapViews
import Derived.JoinedTies
import Derived.KernelRfl
namespace Go.Proofs.Ytlhdfdedhdcmiaa
/- THE CELL 'sum', in the pinned program and in every row, IS THE sha256 OF THE DUMP (.gsa) THAT YtlhdfdedhdcmiaaProg.lean LOADS. Nothing in Lean hashes anything: it is a label: what it is worth is what the hold of that sum in a sandbox is worth. -/
noncomputable def Try.pinned : Pinned := { name := "ytlhdfdedhdcmiaa", sum := "32a4c39ebbaabf30adb0d095167cfc74915b0c7afd392bbb9ed61036072f2ac5", checked := Try.checked }
namespace Rows
def none {H : Type} : Left H := { results := [], args := [] }

/-- 'dioramalaw01.BitsSums': WHATEVER THE INPUT: true; the input reads as it did. -/
def bitsSumsSpec : ChangeSpec := { name := "bitsSums", fn := fun _ => fun
  | [d] => { results := [.lit (.bool true)], args := [d] }
  | _ => none }
def bitsSumsRow : OpenClaim := { program := "ytlhdfdedhdcmiaa", sum := "32a4c39ebbaabf30adb0d095167cfc74915b0c7afd392bbb9ed61036072f2ac5", func := "diorama/dioramalaw01.BitsSums", spec := "bitsSums", apart := false }
def BitsSumsSaid : Prop := bitsSumsRow.holds Try.pinned (OpenSpec.ofChange bitsSumsSpec)

/-- ITS FALSE NEIGHBOUR: 'it returns false'. Refute it at one input. -/
def bitsSumsWrong : ChangeSpec := { name := "bitsSums", fn := fun _ => fun
  | [d] => { results := [.lit (.bool false)], args := [d] }
  | _ => none }
def BitsSumsWrongFalsely : Prop := bitsSumsRow.holds Try.pinned (OpenSpec.ofChange bitsSumsWrong)

/-- 'dioramalaw01.BitsLinear': WHATEVER THE INPUT: true; the input reads as it did. -/
def bitsLinearSpec : ChangeSpec := { name := "bitsLinear", fn := fun _ => fun
  | [d1, d2] => { results := [.lit (.bool true)], args := [d1, d2] }
  | _ => none }
def bitsLinearRow : OpenClaim := { program := "ytlhdfdedhdcmiaa", sum := "32a4c39ebbaabf30adb0d095167cfc74915b0c7afd392bbb9ed61036072f2ac5", func := "diorama/dioramalaw01.BitsLinear", spec := "bitsLinear", apart := false }
def BitsLinearSaid : Prop := bitsLinearRow.holds Try.pinned (OpenSpec.ofChange bitsLinearSpec)

/-- ITS FALSE NEIGHBOUR: 'it returns false'. Refute it at one input. -/
def bitsLinearWrong : ChangeSpec := { name := "bitsLinear", fn := fun _ => fun
  | [d1, d2] => { results := [.lit (.bool false)], args := [d1, d2] }
  | _ => none }
def BitsLinearWrongFalsely : Prop := bitsLinearRow.holds Try.pinned (OpenSpec.ofChange bitsLinearWrong)

/-- 'dioramalaw01.BitsBursts': WHATEVER THE INPUT: true; the input reads as it did. -/
def bitsBurstsSpec : ChangeSpec := { name := "bitsBursts", fn := fun _ => fun
  | [d1, d2, d3] => { results := [.lit (.bool true)], args := [d1, d2, d3] }
  | _ => none }
def bitsBurstsRow : OpenClaim := { program := "ytlhdfdedhdcmiaa", sum := "32a4c39ebbaabf30adb0d095167cfc74915b0c7afd392bbb9ed61036072f2ac5", func := "diorama/dioramalaw01.BitsBursts", spec := "bitsBursts", apart := false }
def BitsBurstsSaid : Prop := bitsBurstsRow.holds Try.pinned (OpenSpec.ofChange bitsBurstsSpec)

/-- ITS FALSE NEIGHBOUR: 'it returns false'. Refute it at one input. -/
def bitsBurstsWrong : ChangeSpec := { name := "bitsBursts", fn := fun _ => fun
  | [d1, d2, d3] => { results := [.lit (.bool false)], args := [d1, d2, d3] }
  | _ => none }
def BitsBurstsWrongFalsely : Prop := bitsBurstsRow.holds Try.pinned (OpenSpec.ofChange bitsBurstsWrong)

/-- 'dioramalaw01.BitsFolds': WHATEVER THE INPUT: true; the input reads as it did. -/
def bitsFoldsSpec : ChangeSpec := { name := "bitsFolds", fn := fun _ => fun
  | [d] => { results := [.lit (.bool true)], args := [d] }
  | _ => none }
def bitsFoldsRow : OpenClaim := { program := "ytlhdfdedhdcmiaa", sum := "32a4c39ebbaabf30adb0d095167cfc74915b0c7afd392bbb9ed61036072f2ac5", func := "diorama/dioramalaw01.BitsFolds", spec := "bitsFolds", apart := false }
def BitsFoldsSaid : Prop := bitsFoldsRow.holds Try.pinned (OpenSpec.ofChange bitsFoldsSpec)

/-- ITS FALSE NEIGHBOUR: 'it returns false'. Refute it at one input. -/
def bitsFoldsWrong : ChangeSpec := { name := "bitsFolds", fn := fun _ => fun
  | [d] => { results := [.lit (.bool false)], args := [d] }
  | _ => none }
def BitsFoldsWrongFalsely : Prop := bitsFoldsRow.holds Try.pinned (OpenSpec.ofChange bitsFoldsWrong)

/-- 'dioramalaw01.BitsInts': WHATEVER THE INPUT: true; the input reads as it did. -/
def bitsIntsSpec : ChangeSpec := { name := "bitsInts", fn := fun _ => fun
  | [d] => { results := [.lit (.bool true)], args := [d] }
  | _ => none }
def bitsIntsRow : OpenClaim := { program := "ytlhdfdedhdcmiaa", sum := "32a4c39ebbaabf30adb0d095167cfc74915b0c7afd392bbb9ed61036072f2ac5", func := "diorama/dioramalaw01.BitsInts", spec := "bitsInts", apart := false }
def BitsIntsSaid : Prop := bitsIntsRow.holds Try.pinned (OpenSpec.ofChange bitsIntsSpec)

/-- ITS FALSE NEIGHBOUR: 'it returns false'. Refute it at one input. -/
def bitsIntsWrong : ChangeSpec := { name := "bitsInts", fn := fun _ => fun
  | [d] => { results := [.lit (.bool false)], args := [d] }
  | _ => none }
def BitsIntsWrongFalsely : Prop := bitsIntsRow.holds Try.pinned (OpenSpec.ofChange bitsIntsWrong)

/-- 'dioramalaw01.BitsVints': WHATEVER THE INPUT: true; the input reads as it did. -/
def bitsVintsSpec : ChangeSpec := { name := "bitsVints", fn := fun _ => fun
  | [d] => { results := [.lit (.bool true)], args := [d] }
  | _ => none }
def bitsVintsRow : OpenClaim := { program := "ytlhdfdedhdcmiaa", sum := "32a4c39ebbaabf30adb0d095167cfc74915b0c7afd392bbb9ed61036072f2ac5", func := "diorama/dioramalaw01.BitsVints", spec := "bitsVints", apart := false }
def BitsVintsSaid : Prop := bitsVintsRow.holds Try.pinned (OpenSpec.ofChange bitsVintsSpec)

/-- ITS FALSE NEIGHBOUR: 'it returns false'. Refute it at one input. -/
def bitsVintsWrong : ChangeSpec := { name := "bitsVints", fn := fun _ => fun
  | [d] => { results := [.lit (.bool false)], args := [d] }
  | _ => none }
def BitsVintsWrongFalsely : Prop := bitsVintsRow.holds Try.pinned (OpenSpec.ofChange bitsVintsWrong)

/-- 'dioramalaw01.BitsReads': WHATEVER THE INPUT: true; the input reads as it did. -/
def bitsReadsSpec : ChangeSpec := { name := "bitsReads", fn := fun _ => fun
  | [d1, d2] => { results := [.lit (.bool true)], args := [d1, d2] }
  | _ => none }
def bitsReadsRow : OpenClaim := { program := "ytlhdfdedhdcmiaa", sum := "32a4c39ebbaabf30adb0d095167cfc74915b0c7afd392bbb9ed61036072f2ac5", func := "diorama/dioramalaw01.BitsReads", spec := "bitsReads", apart := false }
def BitsReadsSaid : Prop := bitsReadsRow.holds Try.pinned (OpenSpec.ofChange bitsReadsSpec)

/-- ITS FALSE NEIGHBOUR: 'it returns false'. Refute it at one input. -/
def bitsReadsWrong : ChangeSpec := { name := "bitsReads", fn := fun _ => fun
  | [d1, d2] => { results := [.lit (.bool false)], args := [d1, d2] }
  | _ => none }
def BitsReadsWrongFalsely : Prop := bitsReadsRow.holds Try.pinned (OpenSpec.ofChange bitsReadsWrong)

/-- 'dioramalaw01.BitsWrites': WHATEVER THE INPUT: true; the input reads as it did. -/
def bitsWritesSpec : ChangeSpec := { name := "bitsWrites", fn := fun _ => fun
  | [d] => { results := [.lit (.bool true)], args := [d] }
  | _ => none }
def bitsWritesRow : OpenClaim := { program := "ytlhdfdedhdcmiaa", sum := "32a4c39ebbaabf30adb0d095167cfc74915b0c7afd392bbb9ed61036072f2ac5", func := "diorama/dioramalaw01.BitsWrites", spec := "bitsWrites", apart := false }
def BitsWritesSaid : Prop := bitsWritesRow.holds Try.pinned (OpenSpec.ofChange bitsWritesSpec)

/-- ITS FALSE NEIGHBOUR: 'it returns false'. Refute it at one input. -/
def bitsWritesWrong : ChangeSpec := { name := "bitsWrites", fn := fun _ => fun
  | [d] => { results := [.lit (.bool false)], args := [d] }
  | _ => none }
def BitsWritesWrongFalsely : Prop := bitsWritesRow.holds Try.pinned (OpenSpec.ofChange bitsWritesWrong)

/-- 'dioramalaw01.BitsNil': WHATEVER THE INPUT: true; the input reads as it did. -/
def bitsNilSpec : ChangeSpec := { name := "bitsNil", fn := fun _ => fun
  | [d] => { results := [.lit (.bool true)], args := [d] }
  | _ => none }
def bitsNilRow : OpenClaim := { program := "ytlhdfdedhdcmiaa", sum := "32a4c39ebbaabf30adb0d095167cfc74915b0c7afd392bbb9ed61036072f2ac5", func := "diorama/dioramalaw01.BitsNil", spec := "bitsNil", apart := false }
def BitsNilSaid : Prop := bitsNilRow.holds Try.pinned (OpenSpec.ofChange bitsNilSpec)

/-- ITS FALSE NEIGHBOUR: 'it returns false'. Refute it at one input. -/
def bitsNilWrong : ChangeSpec := { name := "bitsNil", fn := fun _ => fun
  | [d] => { results := [.lit (.bool false)], args := [d] }
  | _ => none }
def BitsNilWrongFalsely : Prop := bitsNilRow.holds Try.pinned (OpenSpec.ofChange bitsNilWrong)

/-- 'dioramalaw01.BitsBack': WHATEVER THE INPUT: true; the input reads as it did. -/
def bitsBackSpec : ChangeSpec := { name := "bitsBack", fn := fun _ => fun
  | [d1, d2] => { results := [.lit (.bool true)], args := [d1, d2] }
  | _ => none }
def bitsBackRow : OpenClaim := { program := "ytlhdfdedhdcmiaa", sum := "32a4c39ebbaabf30adb0d095167cfc74915b0c7afd392bbb9ed61036072f2ac5", func := "diorama/dioramalaw01.BitsBack", spec := "bitsBack", apart := false }
def BitsBackSaid : Prop := bitsBackRow.holds Try.pinned (OpenSpec.ofChange bitsBackSpec)

/-- ITS FALSE NEIGHBOUR: 'it returns false'. Refute it at one input. -/
def bitsBackWrong : ChangeSpec := { name := "bitsBack", fn := fun _ => fun
  | [d1, d2] => { results := [.lit (.bool false)], args := [d1, d2] }
  | _ => none }
def BitsBackWrongFalsely : Prop := bitsBackRow.holds Try.pinned (OpenSpec.ofChange bitsBackWrong)

/- THE SECOND FORM. 'bulk': how many values and letters a reading holds, each counted each time it is reached (what is shared counts as often as it is met; a slice's spare places count too). A statement '..UptoSaid' is the law's where the arguments, and the package variables that the reading takes, are together of bulk at most 1048576: NARROWER than '..Said'. Prove '..Said' where nothing that the law and all that it calls make is longer than what came in: it says more and counts as full. Else prove '..UptoSaid'. A law counts once. -/
mutual
def uptoBulk {H : Type} : DataW H → Nat
  | .lit (.string bytes) => bytes.length + 1
  | .lit _ => 1
  | .nil => 1
  | .ptr d => uptoBulk d + 1
  | .slice elems spare => uptoBulkAll elems + uptoBulkAll spare + 1
  | .agg parts => uptoBulkAll parts + 1
  | .iface _ d => uptoBulk d + 1
  | .map entries => uptoBulkEntries entries + 1
  | .held _ => 1
def uptoBulkAll {H : Type} : List (DataW H) → Nat
  | [] => 0
  | d :: r => uptoBulk d + uptoBulkAll r
def uptoBulkEntries {H : Type} : List (Lit × DataW H) → Nat
  | [] => 0
  | x :: r => uptoBulkEntry x + uptoBulkEntries r
def uptoBulkEntry {H : Type} : Lit × DataW H → Nat
  | (.string bytes, d) => bytes.length + uptoBulk d + 1
  | (_, d) => uptoBulk d + 1
 end
def uptoSmall : (H : Type) → List (DataW H) → Bool := fun _ ds => decide (uptoBulkAll ds ≤ 1048576)
def OpenSpec.upto (s : _root_.Go.ChangeSpec) : _root_.Go.OpenSpec := { _root_.Go.OpenSpec.ofChange s with cond := some uptoSmall }

/-- 'dioramalaw01.BitsSums', WHERE WHAT IT READS IS OF BULK AT MOST 1048576: true; the input reads as it did. -/
def bitsSumsUptoRow : OpenClaim := { program := "ytlhdfdedhdcmiaa", sum := "32a4c39ebbaabf30adb0d095167cfc74915b0c7afd392bbb9ed61036072f2ac5", func := "diorama/dioramalaw01.BitsSums", spec := "bitsSums", apart := false, narrowed := true }
def BitsSumsUptoSaid : Prop := bitsSumsUptoRow.holds Try.pinned (OpenSpec.upto bitsSumsSpec)

/-- 'dioramalaw01.BitsLinear', WHERE WHAT IT READS IS OF BULK AT MOST 1048576: true; the input reads as it did. -/
def bitsLinearUptoRow : OpenClaim := { program := "ytlhdfdedhdcmiaa", sum := "32a4c39ebbaabf30adb0d095167cfc74915b0c7afd392bbb9ed61036072f2ac5", func := "diorama/dioramalaw01.BitsLinear", spec := "bitsLinear", apart := false, narrowed := true }
def BitsLinearUptoSaid : Prop := bitsLinearUptoRow.holds Try.pinned (OpenSpec.upto bitsLinearSpec)

/-- 'dioramalaw01.BitsBursts', WHERE WHAT IT READS IS OF BULK AT MOST 1048576: true; the input reads as it did. -/
def bitsBurstsUptoRow : OpenClaim := { program := "ytlhdfdedhdcmiaa", sum := "32a4c39ebbaabf30adb0d095167cfc74915b0c7afd392bbb9ed61036072f2ac5", func := "diorama/dioramalaw01.BitsBursts", spec := "bitsBursts", apart := false, narrowed := true }
def BitsBurstsUptoSaid : Prop := bitsBurstsUptoRow.holds Try.pinned (OpenSpec.upto bitsBurstsSpec)

/-- 'dioramalaw01.BitsFolds', WHERE WHAT IT READS IS OF BULK AT MOST 1048576: true; the input reads as it did. -/
def bitsFoldsUptoRow : OpenClaim := { program := "ytlhdfdedhdcmiaa", sum := "32a4c39ebbaabf30adb0d095167cfc74915b0c7afd392bbb9ed61036072f2ac5", func := "diorama/dioramalaw01.BitsFolds", spec := "bitsFolds", apart := false, narrowed := true }
def BitsFoldsUptoSaid : Prop := bitsFoldsUptoRow.holds Try.pinned (OpenSpec.upto bitsFoldsSpec)

/-- 'dioramalaw01.BitsInts', WHERE WHAT IT READS IS OF BULK AT MOST 1048576: true; the input reads as it did. -/
def bitsIntsUptoRow : OpenClaim := { program := "ytlhdfdedhdcmiaa", sum := "32a4c39ebbaabf30adb0d095167cfc74915b0c7afd392bbb9ed61036072f2ac5", func := "diorama/dioramalaw01.BitsInts", spec := "bitsInts", apart := false, narrowed := true }
def BitsIntsUptoSaid : Prop := bitsIntsUptoRow.holds Try.pinned (OpenSpec.upto bitsIntsSpec)

/-- 'dioramalaw01.BitsVints', WHERE WHAT IT READS IS OF BULK AT MOST 1048576: true; the input reads as it did. -/
def bitsVintsUptoRow : OpenClaim := { program := "ytlhdfdedhdcmiaa", sum := "32a4c39ebbaabf30adb0d095167cfc74915b0c7afd392bbb9ed61036072f2ac5", func := "diorama/dioramalaw01.BitsVints", spec := "bitsVints", apart := false, narrowed := true }
def BitsVintsUptoSaid : Prop := bitsVintsUptoRow.holds Try.pinned (OpenSpec.upto bitsVintsSpec)

/-- 'dioramalaw01.BitsReads', WHERE WHAT IT READS IS OF BULK AT MOST 1048576: true; the input reads as it did. -/
def bitsReadsUptoRow : OpenClaim := { program := "ytlhdfdedhdcmiaa", sum := "32a4c39ebbaabf30adb0d095167cfc74915b0c7afd392bbb9ed61036072f2ac5", func := "diorama/dioramalaw01.BitsReads", spec := "bitsReads", apart := false, narrowed := true }
def BitsReadsUptoSaid : Prop := bitsReadsUptoRow.holds Try.pinned (OpenSpec.upto bitsReadsSpec)

/-- 'dioramalaw01.BitsWrites', WHERE WHAT IT READS IS OF BULK AT MOST 1048576: true; the input reads as it did. -/
def bitsWritesUptoRow : OpenClaim := { program := "ytlhdfdedhdcmiaa", sum := "32a4c39ebbaabf30adb0d095167cfc74915b0c7afd392bbb9ed61036072f2ac5", func := "diorama/dioramalaw01.BitsWrites", spec := "bitsWrites", apart := false, narrowed := true }
def BitsWritesUptoSaid : Prop := bitsWritesUptoRow.holds Try.pinned (OpenSpec.upto bitsWritesSpec)

/-- 'dioramalaw01.BitsNil', WHERE WHAT IT READS IS OF BULK AT MOST 1048576: true; the input reads as it did. -/
def bitsNilUptoRow : OpenClaim := { program := "ytlhdfdedhdcmiaa", sum := "32a4c39ebbaabf30adb0d095167cfc74915b0c7afd392bbb9ed61036072f2ac5", func := "diorama/dioramalaw01.BitsNil", spec := "bitsNil", apart := false, narrowed := true }
def BitsNilUptoSaid : Prop := bitsNilUptoRow.holds Try.pinned (OpenSpec.upto bitsNilSpec)

/-- 'dioramalaw01.BitsBack', WHERE WHAT IT READS IS OF BULK AT MOST 1048576: true; the input reads as it did. -/
def bitsBackUptoRow : OpenClaim := { program := "ytlhdfdedhdcmiaa", sum := "32a4c39ebbaabf30adb0d095167cfc74915b0c7afd392bbb9ed61036072f2ac5", func := "diorama/dioramalaw01.BitsBack", spec := "bitsBack", apart := false, narrowed := true }
def BitsBackUptoSaid : Prop := bitsBackUptoRow.holds Try.pinned (OpenSpec.upto bitsBackSpec)

end Rows
end Go.Proofs.Ytlhdfdedhdcmiaa
