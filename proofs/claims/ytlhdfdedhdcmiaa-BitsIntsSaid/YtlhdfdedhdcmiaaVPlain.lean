/- A lemma file: plain facts on wrapped whole numbers, bits and rounds. No condition. -/
import Derived.Test.YtlhdfdedhdcmiaaWWords
import Derived.OpenShut
import Derived.Laws.BitsAllLaws
namespace Go.Proofs.YtlhdfdedhdcmiaaV
open Go.RowKit Go.Proofs.YtlhdfdedhdcmiaaW.PrintWords
theorem w64 {x : Int} (h : -9223372036854775808 ≤ x) (h' : x ≤ 9223372036854775807) : wrap64 x = x := by unfold wrap64; omega
theorem i64b {a : Int} (h : (Lit.int .i64 a).wf = true) : -9223372036854775808 ≤ a ∧ a ≤ 9223372036854775807 := bounds_i64 h
theorem u8b {a : Int} (h : (Lit.int .u8 a).wf = true) : 0 ≤ a ∧ a ≤ 255 := bounds_u8 h
theorem i64_and_one {x : Int} (h : 0 ≤ x) (h' : x ≤ 9223372036854775807) : Go.bits .and .i64 x 1 = x % 2 := by
  have := bits_mask .i64 63 (by decide) (fun n h0 h1 => by rw [IntKind.wrap_i64]; omega) 1 (by decide) x h (by omega)
  simpa using this
end Go.Proofs.YtlhdfdedhdcmiaaV
