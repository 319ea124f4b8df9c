/-
  No cell of these rows narrows 'for every input' (looked for: loops, veiled, ifaces, maps, wideKeys, modest, calm, conditions, laid).
  DERIVED. THE GIVEN ROWS OF THIS SEAT. 16 by the template 'for every input the law returns true; each argument reads behind the call as it read before'; 0 by the template 'total and deterministic' (their statements: YtdiemkeflmflaaaTotals.lean).
  GIVEN WITH THE SEED: the statements are not yours to turn. If you find one false, say at which input.
  Laid BY PROGRAM, IN A SANDBOX (cutbox-rows.mjs): the forced cells as the released guide's own fill.sh prints them over the translation 8a56f93993904349… (all of the seat's roots in one cut). By AI agents, Wed Nov 11 2026. No macro, syntax, notation, axiom, sorry.
-/
import Derived.Test.YtdiemkeflmflaaaChecked
import GoSem.Claim
import GoSem.ClaimJoined
import GoSem.ClaimMapViews
import Derived.JoinedTies
import Derived.KernelRfl
namespace Go.Proofs.Ytdiemkeflmflaaa
/- THE CELL 'sum', in the pinned program and in every row, IS THE sha256 OF THE DUMP (.gsa) THAT YtdiemkeflmflaaaProg.lean LOADS. Nothing in Lean hashes anything: it is a label: what it is worth is what the hold of that sum in a sandbox is worth. -/
noncomputable def Try.pinned : Pinned := { name := "ytdiemkeflmflaaa", sum := "8a56f93993904349ff56e2aaf560204c3f1ec154a567b233c58c9c85d55e21b5", checked := Try.checked }
namespace Rows
def none {H : Type} : Left H := { results := [], args := [] }

/-- 'dioramalaw16.SoundLeaves': WHATEVER THE INPUT: true; the input reads as it did. -/
def soundLeavesSpec : ChangeSpec := { name := "soundLeaves", fn := fun _ => fun
  | [d1, d2] => { results := [.lit (.bool true)], args := [d1, d2] }
  | _ => none }
def soundLeavesRow : OpenClaim := { program := "ytdiemkeflmflaaa", sum := "8a56f93993904349ff56e2aaf560204c3f1ec154a567b233c58c9c85d55e21b5", func := "diorama/dioramalaw16.SoundLeaves", spec := "soundLeaves", unfollowed := true, recurses := true, apart := false }
def SoundLeavesSaid : Prop := soundLeavesRow.holds Try.pinned (OpenSpec.ofChange soundLeavesSpec)

/-- ITS FALSE NEIGHBOUR: 'it returns false'. Refute it at one input. -/
def soundLeavesWrong : ChangeSpec := { name := "soundLeaves", fn := fun _ => fun
  | [d1, d2] => { results := [.lit (.bool false)], args := [d1, d2] }
  | _ => none }
def SoundLeavesWrongFalsely : Prop := soundLeavesRow.holds Try.pinned (OpenSpec.ofChange soundLeavesWrong)

/-- 'dioramalaw16.SoundFinds': WHATEVER THE INPUT: true; the input reads as it did. -/
def soundFindsSpec : ChangeSpec := { name := "soundFinds", fn := fun _ => fun
  | [d1, d2] => { results := [.lit (.bool true)], args := [d1, d2] }
  | _ => none }
def soundFindsRow : OpenClaim := { program := "ytdiemkeflmflaaa", sum := "8a56f93993904349ff56e2aaf560204c3f1ec154a567b233c58c9c85d55e21b5", func := "diorama/dioramalaw16.SoundFinds", spec := "soundFinds", unfollowed := true, recurses := true, apart := false }
def SoundFindsSaid : Prop := soundFindsRow.holds Try.pinned (OpenSpec.ofChange soundFindsSpec)

/-- ITS FALSE NEIGHBOUR: 'it returns false'. Refute it at one input. -/
def soundFindsWrong : ChangeSpec := { name := "soundFinds", fn := fun _ => fun
  | [d1, d2] => { results := [.lit (.bool false)], args := [d1, d2] }
  | _ => none }
def SoundFindsWrongFalsely : Prop := soundFindsRow.holds Try.pinned (OpenSpec.ofChange soundFindsWrong)

/-- 'dioramalaw16.SoundRestores': WHATEVER THE INPUT: true; the input reads as it did. -/
def soundRestoresSpec : ChangeSpec := { name := "soundRestores", fn := fun _ => fun
  | [d1, d2, d3] => { results := [.lit (.bool true)], args := [d1, d2, d3] }
  | _ => none }
def soundRestoresRow : OpenClaim := { program := "ytdiemkeflmflaaa", sum := "8a56f93993904349ff56e2aaf560204c3f1ec154a567b233c58c9c85d55e21b5", func := "diorama/dioramalaw16.SoundRestores", spec := "soundRestores", unfollowed := true, recurses := true, apart := false }
def SoundRestoresSaid : Prop := soundRestoresRow.holds Try.pinned (OpenSpec.ofChange soundRestoresSpec)

/-- ITS FALSE NEIGHBOUR: 'it returns false'. Refute it at one input. -/
def soundRestoresWrong : ChangeSpec := { name := "soundRestores", fn := fun _ => fun
  | [d1, d2, d3] => { results := [.lit (.bool false)], args := [d1, d2, d3] }
  | _ => none }
def SoundRestoresWrongFalsely : Prop := soundRestoresRow.holds Try.pinned (OpenSpec.ofChange soundRestoresWrong)

/-- 'dioramalaw16.SoundThere': WHATEVER THE INPUT: true; the input reads as it did. -/
def soundThereSpec : ChangeSpec := { name := "soundThere", fn := fun _ => fun
  | [d1, d2] => { results := [.lit (.bool true)], args := [d1, d2] }
  | _ => none }
def soundThereRow : OpenClaim := { program := "ytdiemkeflmflaaa", sum := "8a56f93993904349ff56e2aaf560204c3f1ec154a567b233c58c9c85d55e21b5", func := "diorama/dioramalaw16.SoundThere", spec := "soundThere", unfollowed := true, recurses := true, apart := false }
def SoundThereSaid : Prop := soundThereRow.holds Try.pinned (OpenSpec.ofChange soundThereSpec)

/-- ITS FALSE NEIGHBOUR: 'it returns false'. Refute it at one input. -/
def soundThereWrong : ChangeSpec := { name := "soundThere", fn := fun _ => fun
  | [d1, d2] => { results := [.lit (.bool false)], args := [d1, d2] }
  | _ => none }
def SoundThereWrongFalsely : Prop := soundThereRow.holds Try.pinned (OpenSpec.ofChange soundThereWrong)

/-- 'dioramalaw16.SoundRice': WHATEVER THE INPUT: true; the input reads as it did. -/
def soundRiceSpec : ChangeSpec := { name := "soundRice", fn := fun _ => fun
  | [d] => { results := [.lit (.bool true)], args := [d] }
  | _ => none }
def soundRiceRow : OpenClaim := { program := "ytdiemkeflmflaaa", sum := "8a56f93993904349ff56e2aaf560204c3f1ec154a567b233c58c9c85d55e21b5", func := "diorama/dioramalaw16.SoundRice", spec := "soundRice", unfollowed := true, recurses := true, apart := false }
def SoundRiceSaid : Prop := soundRiceRow.holds Try.pinned (OpenSpec.ofChange soundRiceSpec)

/-- ITS FALSE NEIGHBOUR: 'it returns false'. Refute it at one input. -/
def soundRiceWrong : ChangeSpec := { name := "soundRice", fn := fun _ => fun
  | [d] => { results := [.lit (.bool false)], args := [d] }
  | _ => none }
def SoundRiceWrongFalsely : Prop := soundRiceRow.holds Try.pinned (OpenSpec.ofChange soundRiceWrong)

/-- 'dioramalaw16.SoundChecks': WHATEVER THE INPUT: true; the input reads as it did. -/
def soundChecksSpec : ChangeSpec := { name := "soundChecks", fn := fun _ => fun
  | [d1, d2] => { results := [.lit (.bool true)], args := [d1, d2] }
  | _ => none }
def soundChecksRow : OpenClaim := { program := "ytdiemkeflmflaaa", sum := "8a56f93993904349ff56e2aaf560204c3f1ec154a567b233c58c9c85d55e21b5", func := "diorama/dioramalaw16.SoundChecks", spec := "soundChecks", unfollowed := true, recurses := true, apart := false }
def SoundChecksSaid : Prop := soundChecksRow.holds Try.pinned (OpenSpec.ofChange soundChecksSpec)

/-- ITS FALSE NEIGHBOUR: 'it returns false'. Refute it at one input. -/
def soundChecksWrong : ChangeSpec := { name := "soundChecks", fn := fun _ => fun
  | [d1, d2] => { results := [.lit (.bool false)], args := [d1, d2] }
  | _ => none }
def SoundChecksWrongFalsely : Prop := soundChecksRow.holds Try.pinned (OpenSpec.ofChange soundChecksWrong)

/-- 'dioramalaw16.SoundCuts': WHATEVER THE INPUT: true; the input reads as it did. -/
def soundCutsSpec : ChangeSpec := { name := "soundCuts", fn := fun _ => fun
  | [d1, d2, d3] => { results := [.lit (.bool true)], args := [d1, d2, d3] }
  | _ => none }
def soundCutsRow : OpenClaim := { program := "ytdiemkeflmflaaa", sum := "8a56f93993904349ff56e2aaf560204c3f1ec154a567b233c58c9c85d55e21b5", func := "diorama/dioramalaw16.SoundCuts", spec := "soundCuts", unfollowed := true, recurses := true, apart := false }
def SoundCutsSaid : Prop := soundCutsRow.holds Try.pinned (OpenSpec.ofChange soundCutsSpec)

/-- ITS FALSE NEIGHBOUR: 'it returns false'. Refute it at one input. -/
def soundCutsWrong : ChangeSpec := { name := "soundCuts", fn := fun _ => fun
  | [d1, d2, d3] => { results := [.lit (.bool false)], args := [d1, d2, d3] }
  | _ => none }
def SoundCutsWrongFalsely : Prop := soundCutsRow.holds Try.pinned (OpenSpec.ofChange soundCutsWrong)

/-- 'dioramalaw16.SoundFrames': WHATEVER THE INPUT: true; the input reads as it did. -/
def soundFramesSpec : ChangeSpec := { name := "soundFrames", fn := fun _ => fun
  | [d1, d2] => { results := [.lit (.bool true)], args := [d1, d2] }
  | _ => none }
def soundFramesRow : OpenClaim := { program := "ytdiemkeflmflaaa", sum := "8a56f93993904349ff56e2aaf560204c3f1ec154a567b233c58c9c85d55e21b5", func := "diorama/dioramalaw16.SoundFrames", spec := "soundFrames", unfollowed := true, recurses := true, apart := false }
def SoundFramesSaid : Prop := soundFramesRow.holds Try.pinned (OpenSpec.ofChange soundFramesSpec)

/-- ITS FALSE NEIGHBOUR: 'it returns false'. Refute it at one input. -/
def soundFramesWrong : ChangeSpec := { name := "soundFrames", fn := fun _ => fun
  | [d1, d2] => { results := [.lit (.bool false)], args := [d1, d2] }
  | _ => none }
def SoundFramesWrongFalsely : Prop := soundFramesRow.holds Try.pinned (OpenSpec.ofChange soundFramesWrong)

/-- 'dioramalaw16.SoundBest': WHATEVER THE INPUT: true; the input reads as it did. -/
def soundBestSpec : ChangeSpec := { name := "soundBest", fn := fun _ => fun
  | [d] => { results := [.lit (.bool true)], args := [d] }
  | _ => none }
def soundBestRow : OpenClaim := { program := "ytdiemkeflmflaaa", sum := "8a56f93993904349ff56e2aaf560204c3f1ec154a567b233c58c9c85d55e21b5", func := "diorama/dioramalaw16.SoundBest", spec := "soundBest", unfollowed := true, recurses := true, apart := false }
def SoundBestSaid : Prop := soundBestRow.holds Try.pinned (OpenSpec.ofChange soundBestSpec)

/-- ITS FALSE NEIGHBOUR: 'it returns false'. Refute it at one input. -/
def soundBestWrong : ChangeSpec := { name := "soundBest", fn := fun _ => fun
  | [d] => { results := [.lit (.bool false)], args := [d] }
  | _ => none }
def SoundBestWrongFalsely : Prop := soundBestRow.holds Try.pinned (OpenSpec.ofChange soundBestWrong)

/-- 'dioramalaw16.SoundEncodes': WHATEVER THE INPUT: true; the input reads as it did. -/
def soundEncodesSpec : ChangeSpec := { name := "soundEncodes", fn := fun _ => fun
  | [d1, d2, d3] => { results := [.lit (.bool true)], args := [d1, d2, d3] }
  | _ => none }
def soundEncodesRow : OpenClaim := { program := "ytdiemkeflmflaaa", sum := "8a56f93993904349ff56e2aaf560204c3f1ec154a567b233c58c9c85d55e21b5", func := "diorama/dioramalaw16.SoundEncodes", spec := "soundEncodes", unfollowed := true, recurses := true, apart := false }
def SoundEncodesSaid : Prop := soundEncodesRow.holds Try.pinned (OpenSpec.ofChange soundEncodesSpec)

/-- ITS FALSE NEIGHBOUR: 'it returns false'. Refute it at one input. -/
def soundEncodesWrong : ChangeSpec := { name := "soundEncodes", fn := fun _ => fun
  | [d1, d2, d3] => { results := [.lit (.bool false)], args := [d1, d2, d3] }
  | _ => none }
def SoundEncodesWrongFalsely : Prop := soundEncodesRow.holds Try.pinned (OpenSpec.ofChange soundEncodesWrong)

/-- 'dioramalaw16.SoundDecodes': WHATEVER THE INPUT: true; the input reads as it did. -/
def soundDecodesSpec : ChangeSpec := { name := "soundDecodes", fn := fun _ => fun
  | [d] => { results := [.lit (.bool true)], args := [d] }
  | _ => none }
def soundDecodesRow : OpenClaim := { program := "ytdiemkeflmflaaa", sum := "8a56f93993904349ff56e2aaf560204c3f1ec154a567b233c58c9c85d55e21b5", func := "diorama/dioramalaw16.SoundDecodes", spec := "soundDecodes", unfollowed := true, recurses := true, apart := false }
def SoundDecodesSaid : Prop := soundDecodesRow.holds Try.pinned (OpenSpec.ofChange soundDecodesSpec)

/-- ITS FALSE NEIGHBOUR: 'it returns false'. Refute it at one input. -/
def soundDecodesWrong : ChangeSpec := { name := "soundDecodes", fn := fun _ => fun
  | [d] => { results := [.lit (.bool false)], args := [d] }
  | _ => none }
def SoundDecodesWrongFalsely : Prop := soundDecodesRow.holds Try.pinned (OpenSpec.ofChange soundDecodesWrong)

/-- 'dioramalaw16.SoundJoins': WHATEVER THE INPUT: true; the input reads as it did. -/
def soundJoinsSpec : ChangeSpec := { name := "soundJoins", fn := fun _ => fun
  | [d] => { results := [.lit (.bool true)], args := [d] }
  | _ => none }
def soundJoinsRow : OpenClaim := { program := "ytdiemkeflmflaaa", sum := "8a56f93993904349ff56e2aaf560204c3f1ec154a567b233c58c9c85d55e21b5", func := "diorama/dioramalaw16.SoundJoins", spec := "soundJoins", unfollowed := true, recurses := true, apart := false }
def SoundJoinsSaid : Prop := soundJoinsRow.holds Try.pinned (OpenSpec.ofChange soundJoinsSpec)

/-- ITS FALSE NEIGHBOUR: 'it returns false'. Refute it at one input. -/
def soundJoinsWrong : ChangeSpec := { name := "soundJoins", fn := fun _ => fun
  | [d] => { results := [.lit (.bool false)], args := [d] }
  | _ => none }
def SoundJoinsWrongFalsely : Prop := soundJoinsRow.holds Try.pinned (OpenSpec.ofChange soundJoinsWrong)

/-- 'dioramalaw16.SoundHurt': WHATEVER THE INPUT: true; the input reads as it did. -/
def soundHurtSpec : ChangeSpec := { name := "soundHurt", fn := fun _ => fun
  | [d1, d2, d3] => { results := [.lit (.bool true)], args := [d1, d2, d3] }
  | _ => none }
def soundHurtRow : OpenClaim := { program := "ytdiemkeflmflaaa", sum := "8a56f93993904349ff56e2aaf560204c3f1ec154a567b233c58c9c85d55e21b5", func := "diorama/dioramalaw16.SoundHurt", spec := "soundHurt", unfollowed := true, recurses := true, apart := false }
def SoundHurtSaid : Prop := soundHurtRow.holds Try.pinned (OpenSpec.ofChange soundHurtSpec)

/-- ITS FALSE NEIGHBOUR: 'it returns false'. Refute it at one input. -/
def soundHurtWrong : ChangeSpec := { name := "soundHurt", fn := fun _ => fun
  | [d1, d2, d3] => { results := [.lit (.bool false)], args := [d1, d2, d3] }
  | _ => none }
def SoundHurtWrongFalsely : Prop := soundHurtRow.holds Try.pinned (OpenSpec.ofChange soundHurtWrong)

/-- 'dioramalaw16.SoundBack': WHATEVER THE INPUT: true; the input reads as it did. -/
def soundBackSpec : ChangeSpec := { name := "soundBack", fn := fun _ => fun
  | [d1, d2, d3] => { results := [.lit (.bool true)], args := [d1, d2, d3] }
  | _ => none }
def soundBackRow : OpenClaim := { program := "ytdiemkeflmflaaa", sum := "8a56f93993904349ff56e2aaf560204c3f1ec154a567b233c58c9c85d55e21b5", func := "diorama/dioramalaw16.SoundBack", spec := "soundBack", unfollowed := true, recurses := true, apart := false }
def SoundBackSaid : Prop := soundBackRow.holds Try.pinned (OpenSpec.ofChange soundBackSpec)

/-- ITS FALSE NEIGHBOUR: 'it returns false'. Refute it at one input. -/
def soundBackWrong : ChangeSpec := { name := "soundBack", fn := fun _ => fun
  | [d1, d2, d3] => { results := [.lit (.bool false)], args := [d1, d2, d3] }
  | _ => none }
def SoundBackWrongFalsely : Prop := soundBackRow.holds Try.pinned (OpenSpec.ofChange soundBackWrong)

/-- 'dioramalaw16.SoundSeeks': WHATEVER THE INPUT: true; the input reads as it did. -/
def soundSeeksSpec : ChangeSpec := { name := "soundSeeks", fn := fun _ => fun
  | [d1, d2, d3] => { results := [.lit (.bool true)], args := [d1, d2, d3] }
  | _ => none }
def soundSeeksRow : OpenClaim := { program := "ytdiemkeflmflaaa", sum := "8a56f93993904349ff56e2aaf560204c3f1ec154a567b233c58c9c85d55e21b5", func := "diorama/dioramalaw16.SoundSeeks", spec := "soundSeeks", unfollowed := true, recurses := true, apart := false }
def SoundSeeksSaid : Prop := soundSeeksRow.holds Try.pinned (OpenSpec.ofChange soundSeeksSpec)

/-- ITS FALSE NEIGHBOUR: 'it returns false'. Refute it at one input. -/
def soundSeeksWrong : ChangeSpec := { name := "soundSeeks", fn := fun _ => fun
  | [d1, d2, d3] => { results := [.lit (.bool false)], args := [d1, d2, d3] }
  | _ => none }
def SoundSeeksWrongFalsely : Prop := soundSeeksRow.holds Try.pinned (OpenSpec.ofChange soundSeeksWrong)

/-- 'dioramalaw16.SoundParts': WHATEVER THE INPUT: true; the input reads as it did. -/
def soundPartsSpec : ChangeSpec := { name := "soundParts", fn := fun _ => fun
  | [d1, d2] => { results := [.lit (.bool true)], args := [d1, d2] }
  | _ => none }
def soundPartsRow : OpenClaim := { program := "ytdiemkeflmflaaa", sum := "8a56f93993904349ff56e2aaf560204c3f1ec154a567b233c58c9c85d55e21b5", func := "diorama/dioramalaw16.SoundParts", spec := "soundParts", unfollowed := true, recurses := true, apart := false }
def SoundPartsSaid : Prop := soundPartsRow.holds Try.pinned (OpenSpec.ofChange soundPartsSpec)

/-- ITS FALSE NEIGHBOUR: 'it returns false'. Refute it at one input. -/
def soundPartsWrong : ChangeSpec := { name := "soundParts", fn := fun _ => fun
  | [d1, d2] => { results := [.lit (.bool false)], args := [d1, d2] }
  | _ => none }
def SoundPartsWrongFalsely : Prop := soundPartsRow.holds Try.pinned (OpenSpec.ofChange soundPartsWrong)

/- THE SECOND FORM. 'bulk': how many values and letters a reading holds, each counted each time it is reached (what is shared counts as often as it is met; a slice's spare places count too). A statement '..UptoSaid' is the law's where the arguments, and the package variables that the reading takes, are together of bulk at most 1048576: NARROWER than '..Said'. Prove '..Said' where nothing that the law and all that it calls make is longer than what came in: it says more and counts as full. Else prove '..UptoSaid'. A law counts once. -/
mutual
def uptoBulk {H : Type} : DataW H → Nat
  | .lit (.string bytes) => bytes.length + 1
  | .lit _ => 1
  | .nil => 1
  | .ptr d => uptoBulk d + 1
  | .slice elems spare => uptoBulkAll elems + uptoBulkAll spare + 1
  | .agg parts => uptoBulkAll parts + 1
  | .iface _ d => uptoBulk d + 1
  | .map entries => uptoBulkEntries entries + 1
  | .held _ => 1
def uptoBulkAll {H : Type} : List (DataW H) → Nat
  | [] => 0
  | d :: r => uptoBulk d + uptoBulkAll r
def uptoBulkEntries {H : Type} : List (Lit × DataW H) → Nat
  | [] => 0
  | x :: r => uptoBulkEntry x + uptoBulkEntries r
def uptoBulkEntry {H : Type} : Lit × DataW H → Nat
  | (.string bytes, d) => bytes.length + uptoBulk d + 1
  | (_, d) => uptoBulk d + 1
 end
def uptoSmall : (H : Type) → List (DataW H) → Bool := fun _ ds => decide (uptoBulkAll ds ≤ 1048576)
def OpenSpec.upto (s : _root_.Go.ChangeSpec) : _root_.Go.OpenSpec := { _root_.Go.OpenSpec.ofChange s with cond := some uptoSmall }

/-- 'dioramalaw16.SoundLeaves', WHERE WHAT IT READS IS OF BULK AT MOST 1048576: true; the input reads as it did. -/
def soundLeavesUptoRow : OpenClaim := { program := "ytdiemkeflmflaaa", sum := "8a56f93993904349ff56e2aaf560204c3f1ec154a567b233c58c9c85d55e21b5", func := "diorama/dioramalaw16.SoundLeaves", spec := "soundLeaves", unfollowed := true, recurses := true, apart := false, narrowed := true }
def SoundLeavesUptoSaid : Prop := soundLeavesUptoRow.holds Try.pinned (OpenSpec.upto soundLeavesSpec)

/-- 'dioramalaw16.SoundFinds', WHERE WHAT IT READS IS OF BULK AT MOST 1048576: true; the input reads as it did. -/
def soundFindsUptoRow : OpenClaim := { program := "ytdiemkeflmflaaa", sum := "8a56f93993904349ff56e2aaf560204c3f1ec154a567b233c58c9c85d55e21b5", func := "diorama/dioramalaw16.SoundFinds", spec := "soundFinds", unfollowed := true, recurses := true, apart := false, narrowed := true }
def SoundFindsUptoSaid : Prop := soundFindsUptoRow.holds Try.pinned (OpenSpec.upto soundFindsSpec)

/-- 'dioramalaw16.SoundRestores', WHERE WHAT IT READS IS OF BULK AT MOST 1048576: true; the input reads as it did. -/
def soundRestoresUptoRow : OpenClaim := { program := "ytdiemkeflmflaaa", sum := "8a56f93993904349ff56e2aaf560204c3f1ec154a567b233c58c9c85d55e21b5", func := "diorama/dioramalaw16.SoundRestores", spec := "soundRestores", unfollowed := true, recurses := true, apart := false, narrowed := true }
def SoundRestoresUptoSaid : Prop := soundRestoresUptoRow.holds Try.pinned (OpenSpec.upto soundRestoresSpec)

/-- 'dioramalaw16.SoundThere', WHERE WHAT IT READS IS OF BULK AT MOST 1048576: true; the input reads as it did. -/
def soundThereUptoRow : OpenClaim := { program := "ytdiemkeflmflaaa", sum := "8a56f93993904349ff56e2aaf560204c3f1ec154a567b233c58c9c85d55e21b5", func := "diorama/dioramalaw16.SoundThere", spec := "soundThere", unfollowed := true, recurses := true, apart := false, narrowed := true }
def SoundThereUptoSaid : Prop := soundThereUptoRow.holds Try.pinned (OpenSpec.upto soundThereSpec)

/-- 'dioramalaw16.SoundRice', WHERE WHAT IT READS IS OF BULK AT MOST 1048576: true; the input reads as it did. -/
def soundRiceUptoRow : OpenClaim := { program := "ytdiemkeflmflaaa", sum := "8a56f93993904349ff56e2aaf560204c3f1ec154a567b233c58c9c85d55e21b5", func := "diorama/dioramalaw16.SoundRice", spec := "soundRice", unfollowed := true, recurses := true, apart := false, narrowed := true }
def SoundRiceUptoSaid : Prop := soundRiceUptoRow.holds Try.pinned (OpenSpec.upto soundRiceSpec)

/-- 'dioramalaw16.SoundChecks', WHERE WHAT IT READS IS OF BULK AT MOST 1048576: true; the input reads as it did. -/
def soundChecksUptoRow : OpenClaim := { program := "ytdiemkeflmflaaa", sum := "8a56f93993904349ff56e2aaf560204c3f1ec154a567b233c58c9c85d55e21b5", func := "diorama/dioramalaw16.SoundChecks", spec := "soundChecks", unfollowed := true, recurses := true, apart := false, narrowed := true }
def SoundChecksUptoSaid : Prop := soundChecksUptoRow.holds Try.pinned (OpenSpec.upto soundChecksSpec)

/-- 'dioramalaw16.SoundCuts', WHERE WHAT IT READS IS OF BULK AT MOST 1048576: true; the input reads as it did. -/
def soundCutsUptoRow : OpenClaim := { program := "ytdiemkeflmflaaa", sum := "8a56f93993904349ff56e2aaf560204c3f1ec154a567b233c58c9c85d55e21b5", func := "diorama/dioramalaw16.SoundCuts", spec := "soundCuts", unfollowed := true, recurses := true, apart := false, narrowed := true }
def SoundCutsUptoSaid : Prop := soundCutsUptoRow.holds Try.pinned (OpenSpec.upto soundCutsSpec)

/-- 'dioramalaw16.SoundFrames', WHERE WHAT IT READS IS OF BULK AT MOST 1048576: true; the input reads as it did. -/
def soundFramesUptoRow : OpenClaim := { program := "ytdiemkeflmflaaa", sum := "8a56f93993904349ff56e2aaf560204c3f1ec154a567b233c58c9c85d55e21b5", func := "diorama/dioramalaw16.SoundFrames", spec := "soundFrames", unfollowed := true, recurses := true, apart := false, narrowed := true }
def SoundFramesUptoSaid : Prop := soundFramesUptoRow.holds Try.pinned (OpenSpec.upto soundFramesSpec)

/-- 'dioramalaw16.SoundBest', WHERE WHAT IT READS IS OF BULK AT MOST 1048576: true; the input reads as it did. -/
def soundBestUptoRow : OpenClaim := { program := "ytdiemkeflmflaaa", sum := "8a56f93993904349ff56e2aaf560204c3f1ec154a567b233c58c9c85d55e21b5", func := "diorama/dioramalaw16.SoundBest", spec := "soundBest", unfollowed := true, recurses := true, apart := false, narrowed := true }
def SoundBestUptoSaid : Prop := soundBestUptoRow.holds Try.pinned (OpenSpec.upto soundBestSpec)

/-- 'dioramalaw16.SoundEncodes', WHERE WHAT IT READS IS OF BULK AT MOST 1048576: true; the input reads as it did. -/
def soundEncodesUptoRow : OpenClaim := { program := "ytdiemkeflmflaaa", sum := "8a56f93993904349ff56e2aaf560204c3f1ec154a567b233c58c9c85d55e21b5", func := "diorama/dioramalaw16.SoundEncodes", spec := "soundEncodes", unfollowed := true, recurses := true, apart := false, narrowed := true }
def SoundEncodesUptoSaid : Prop := soundEncodesUptoRow.holds Try.pinned (OpenSpec.upto soundEncodesSpec)

/-- 'dioramalaw16.SoundDecodes', WHERE WHAT IT READS IS OF BULK AT MOST 1048576: true; the input reads as it did. -/
def soundDecodesUptoRow : OpenClaim := { program := "ytdiemkeflmflaaa", sum := "8a56f93993904349ff56e2aaf560204c3f1ec154a567b233c58c9c85d55e21b5", func := "diorama/dioramalaw16.SoundDecodes", spec := "soundDecodes", unfollowed := true, recurses := true, apart := false, narrowed := true }
def SoundDecodesUptoSaid : Prop := soundDecodesUptoRow.holds Try.pinned (OpenSpec.upto soundDecodesSpec)

/-- 'dioramalaw16.SoundJoins', WHERE WHAT IT READS IS OF BULK AT MOST 1048576: true; the input reads as it did. -/
def soundJoinsUptoRow : OpenClaim := { program := "ytdiemkeflmflaaa", sum := "8a56f93993904349ff56e2aaf560204c3f1ec154a567b233c58c9c85d55e21b5", func := "diorama/dioramalaw16.SoundJoins", spec := "soundJoins", unfollowed := true, recurses := true, apart := false, narrowed := true }
def SoundJoinsUptoSaid : Prop := soundJoinsUptoRow.holds Try.pinned (OpenSpec.upto soundJoinsSpec)

/-- 'dioramalaw16.SoundHurt', WHERE WHAT IT READS IS OF BULK AT MOST 1048576: true; the input reads as it did. -/
def soundHurtUptoRow : OpenClaim := { program := "ytdiemkeflmflaaa", sum := "8a56f93993904349ff56e2aaf560204c3f1ec154a567b233c58c9c85d55e21b5", func := "diorama/dioramalaw16.SoundHurt", spec := "soundHurt", unfollowed := true, recurses := true, apart := false, narrowed := true }
def SoundHurtUptoSaid : Prop := soundHurtUptoRow.holds Try.pinned (OpenSpec.upto soundHurtSpec)

/-- 'dioramalaw16.SoundBack', WHERE WHAT IT READS IS OF BULK AT MOST 1048576: true; the input reads as it did. -/
def soundBackUptoRow : OpenClaim := { program := "ytdiemkeflmflaaa", sum := "8a56f93993904349ff56e2aaf560204c3f1ec154a567b233c58c9c85d55e21b5", func := "diorama/dioramalaw16.SoundBack", spec := "soundBack", unfollowed := true, recurses := true, apart := false, narrowed := true }
def SoundBackUptoSaid : Prop := soundBackUptoRow.holds Try.pinned (OpenSpec.upto soundBackSpec)

/-- 'dioramalaw16.SoundSeeks', WHERE WHAT IT READS IS OF BULK AT MOST 1048576: true; the input reads as it did. -/
def soundSeeksUptoRow : OpenClaim := { program := "ytdiemkeflmflaaa", sum := "8a56f93993904349ff56e2aaf560204c3f1ec154a567b233c58c9c85d55e21b5", func := "diorama/dioramalaw16.SoundSeeks", spec := "soundSeeks", unfollowed := true, recurses := true, apart := false, narrowed := true }
def SoundSeeksUptoSaid : Prop := soundSeeksUptoRow.holds Try.pinned (OpenSpec.upto soundSeeksSpec)

/-- 'dioramalaw16.SoundParts', WHERE WHAT IT READS IS OF BULK AT MOST 1048576: true; the input reads as it did. -/
def soundPartsUptoRow : OpenClaim := { program := "ytdiemkeflmflaaa", sum := "8a56f93993904349ff56e2aaf560204c3f1ec154a567b233c58c9c85d55e21b5", func := "diorama/dioramalaw16.SoundParts", spec := "soundParts", unfollowed := true, recurses := true, apart := false, narrowed := true }
def SoundPartsUptoSaid : Prop := soundPartsUptoRow.holds Try.pinned (OpenSpec.upto soundPartsSpec)

end Rows
end Go.Proofs.Ytdiemkeflmflaaa
