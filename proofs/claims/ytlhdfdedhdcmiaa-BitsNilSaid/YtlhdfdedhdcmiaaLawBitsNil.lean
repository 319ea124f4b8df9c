/- a writer and a reader that are not there refuse everything, and have nothing (P1.6). This text: the row of the statement, out of the pure theorem and the walk. -/
import Derived.Test.YtlhdfdedhdcmiaaRows
import Derived.Test.YtlhdfdedhdcmiaaQBitsx77
import Derived.Test.YtlhdfdedhdcmiaaPureBitsNil
import Derived.Test.YtlhdfdedhdcmiaaVOpen
import Derived.WalkKit
import Derived.ProofKit
import Derived.OpenShut
import Derived.ShutString
import Derived.ChangeOld
import Derived.Below
import Derived.SizedLaws
import Derived.Carry
namespace Go.Proofs.Ytlhdfdedhdcmiaa.bitsNil
open Go.ChangeShapes Go.WideShapes Go.ChangeAt Go.RowKit Go.Proofs.YtlhdfdedhdcmiaaW.PrintWords Go.Proofs.YtlhdfdedhdcmiaaV Go.Proofs.Ytlhdfdedhdcmiaa.QBits
open Go.ChangeMaps (open_string shut_string)
set_option linter.unusedVariables false
set_option linter.unusedSimpArgs false
theorem own : ownKnob Try.prog.godebug = none := by kernel_rfl
theorem laidOut : laidOutB Try.prog = true := by kernel_rfl
theorem opens0 : Opens Try.prog (Kd.pair (Kd.int .i64) (Kd.pair (Kd.int .i64) ((Kd.int .i64)))) 56 (fun x => ((Lit.int .i64 x.1).wf = true) ∧ ((Lit.int .i64 x.2.1).wf = true) ∧ ((Lit.int .i64 x.2.2).wf = true)) := (Opens.struct Try.underlying56 (by kernel_rfl) (OpensF.cons rfl (Opens.int Try.underlying3 (by kernel_rfl)) (OpensF.cons rfl (Opens.int Try.underlying3 (by kernel_rfl)) (OpensF.last rfl (Opens.int Try.underlying3 (by kernel_rfl))))))
set_option maxRecDepth 100000 in
set_option maxHeartbeats 1000000 in
theorem lifted (os : Os) (started : os.Started) (H : Type) (enc : TypeId × Value → H) :
    ReturnsInHanded {} Try.checked os 11 .any (Rows.bitsNilSpec.pre6 enc Try.prog Try.f11 Rows.bitsNilRow.domain false) (Rows.bitsNilSpec.post enc Try.prog Try.f11 false true false false) := by
  refine returnsInHanded_of_change_sized (C := Try.checked) own started (by kernel_rfl) Try.func11
    (ChangeSpec.witness6 (enc := enc) (C := Try.checked) false ⟨#[], #[.agg #[.int .i64 0, .int .i64 0, .int .i64 0]], []⟩ 8 (by kernel_rfl) (by kernel_rfl) (by kernel_rfl) (by kernel_rfl)) ?_
  intro W base args ds gs before hval0 hW hcnd hsz0 _
  have hval : ∀ (j : Nat) t v, Try.f11.params[j]? = some t → args[j]? = some v → Value.okWide Try.prog W .any base t v := hval0
  have hW' := hW
  obtain ⟨p, q, hA0, hV, rfl, hfz, hnd⟩ := hW
  have hA : DataW.TrodAll enc Try.prog W 0 (fun _ => true) true Try.f11.params.toList args.toList ds p := hA0
  rw [Try.params11] at hA hval
  obtain ⟨v0, vs0, d0, ds0, p0, q0, hargs, rfl, rfl, h0, r0⟩ := trodAll_cons hA
  obtain ⟨rfl, rfl, rfl⟩ := trodAll_nil r0
  obtain rfl : args = #[v0] := by cases args; simp_all
  obtain ⟨rfl, rfl⟩ := trodVars_none hV
  obtain ⟨cs0, rfl, hsz0⟩ := okWide_struct Try.underlying56 (hval 0 56 v0 rfl rfl)
  have k0 := h0
  have lt0 : ∀ x ∈ p0, x.block < W.heap.size := by obtain ⟨m, hm⟩ := k0; exact DataW.trod_lt m _ _ _ hm
  obtain ⟨x0, hK0, hok0⟩ := opens0.param h0
  obtain ⟨_, _, hcs0, rfl, ⟨_, _, rfl, rfl, rfl⟩⟩ := hK0
  obtain rfl : cs0 = #[.int .i64 x0.1, .int .i64 x0.2.1, .int .i64 x0.2.2] := Array.ext' (by simpa [Value.cells] using hcs0)
  clear hA0 hval0 hsz0
  obtain ⟨k, hp⟩ := Pure.BitsNil x0.1 x0.2.1 x0.2.2 hok0.1 hok0.2.1 hok0.2.2
  refine (dioramalaw01_BitsNil.calls k x0.1 x0.2.1 x0.2.2 true W  hp).mono fun e W' ⟨he, bel⟩ => ?_
  subst he
  exact ⟨_, rfl, _, _, _, [], _, [], hW', trodAll_mk1 (shut_bool Try.underlying4 _), (trodAll_cons_mk (Below.trod laidOut (by kernel_rfl) (of_decide_eq_true (by kernel_rfl)) k0 bel lt0) trodAll_mk0), rfl, bel.frame _, fun h => by cases h⟩
theorem over : Rows.bitsNilRow.holds Try.pinned (OpenSpec.ofChange Rows.bitsNilSpec) :=
  OpenClaim.holds_of_wide 11 Try.f11 rfl rfl rfl rfl rfl rfl rfl ⟨rfl, rfl, rfl, rfl, rfl⟩ rfl rfl rfl rfl rfl (by kernel_rfl) Try.func11 (by kernel_rfl)
    (of_decide_eq_true (by kernel_rfl)) (by unfold Func.isWrapper; first | (rw [if_pos (by decide +kernel)]; kernel_rfl) | (rw [if_neg (by decide +kernel)]; exact ⟨rfl, rfl⟩))
    (fun os started H enc _ => lifted os started H enc)
theorem proved : Rows.BitsNilSaid := over
end Go.Proofs.Ytlhdfdedhdcmiaa.bitsNil
namespace Go.Proofs.Ytlhdfdedhdcmiaa
/-- The row, under a short name, for the claim. -/
theorem bitsNil_holds : Rows.BitsNilSaid := bitsNil.proved
end Go.Proofs.Ytlhdfdedhdcmiaa
