/- the runs of any pixels, and the pixels of any runs, are the chapter's, with their errors; what is coded is read, and what is read is coded as the same bytes This text: the row of the statement, out of the pure theorem and the walk. -/
import Derived.Test.YtaebgjdaoloceaaRows
import Derived.Test.YtaebgjdaoloceaaQBitmapx12
import Derived.Test.YtaebgjdaoloceaaPureBitmapRuns
import Derived.Test.YtaebgjdaoloceaaVOpen
import Derived.WalkKit
import Derived.ProofKit
import Derived.OpenShut
import Derived.ShutString
import Derived.ChangeOld
import Derived.Below
import Derived.SizedLaws
import Derived.Carry
namespace Go.Proofs.Ytaebgjdaoloceaa.bitmapRuns
open Go.ChangeShapes Go.WideShapes Go.ChangeAt Go.RowKit Go.Proofs.YtaebgjdaoloceaaW.PrintWords Go.Proofs.YtaebgjdaoloceaaV Go.Proofs.Ytaebgjdaoloceaa.QBitmap
open Go.ChangeMaps (open_string shut_string)
set_option linter.unusedVariables false
set_option linter.unusedSimpArgs false
theorem own : ownKnob Try.prog.godebug = none := by kernel_rfl
theorem laidOut : laidOutB Try.prog = true := by kernel_rfl
set_option maxRecDepth 100000 in
theorem opens0 : Opens Try.prog (Kd.pair (Kd.slice 3 (Kd.int .i64)) (Kd.pair (Kd.int .i64) (Kd.pair (Kd.slice 5 (Kd.int .u8)) ((Kd.int .i64))))) 25 (fun x => (x.1.length ≤ maxLen ∧ ∀ x0 ∈ x.1, (Lit.int .i64 x0).wf = true) ∧ ((Lit.int .i64 x.2.1).wf = true) ∧ (x.2.2.1.length ≤ maxLen ∧ ∀ x0 ∈ x.2.2.1, (Lit.int .u8 x0).wf = true) ∧ ((Lit.int .i64 x.2.2.2).wf = true)) := (Opens.struct Try.underlying25 (by kernel_rfl) (OpensF.cons rfl (Opens.slice Try.underlying22 (by kernel_rfl) (Opens.int Try.underlying3 (by kernel_rfl))) (OpensF.cons rfl (Opens.int Try.underlying3 (by kernel_rfl)) (OpensF.cons rfl (Opens.slice Try.underlying23 (by kernel_rfl) (Opens.int Try.underlying5 (by kernel_rfl))) (OpensF.last rfl (Opens.int Try.underlying3 (by kernel_rfl)))))))
set_option maxRecDepth 100000 in
set_option maxHeartbeats 1000000 in
theorem lifted (os : Os) (started : os.Started) (H : Type) (enc : TypeId × Value → H) :
    ReturnsInHanded {} Try.checked os 3 .any (Rows.bitmapRunsSpec.pre6 enc Try.prog Try.f3 Rows.bitmapRunsRow.domain false) (Rows.bitmapRunsSpec.post enc Try.prog Try.f3 false true false false) := by
  refine returnsInHanded_of_change_sized (C := Try.checked) own started (by kernel_rfl) Try.func3
    (ChangeSpec.witness6 (enc := enc) (C := Try.checked) false ⟨#[], #[.agg #[.slice none 0 0, .int .i64 0, .slice none 0 0, .int .i64 0]], []⟩ 8 (by kernel_rfl) (by kernel_rfl) (by kernel_rfl) (by kernel_rfl)) ?_
  intro W base args ds gs before hval0 hW hcnd hsz0 _
  have hval : ∀ (j : Nat) t v, Try.f3.params[j]? = some t → args[j]? = some v → Value.okWide Try.prog W .any base t v := hval0
  have hW' := hW
  obtain ⟨p, q, hA0, hV, rfl, hfz, hnd⟩ := hW
  have hA : DataW.TrodAll enc Try.prog W 0 (fun _ => true) true Try.f3.params.toList args.toList ds p := hA0
  rw [Try.params3] at hA hval
  obtain ⟨v0, vs0, d0, ds0, p0, q0, hargs, rfl, rfl, h0, r0⟩ := trodAll_cons hA
  obtain ⟨rfl, rfl, rfl⟩ := trodAll_nil r0
  obtain rfl : args = #[v0] := by cases args; simp_all
  obtain ⟨rfl, rfl⟩ := trodVars_none hV
  obtain ⟨cs0, rfl, hsz0⟩ := okWide_struct Try.underlying25 (hval 0 25 v0 rfl rfl)
  have k0 := h0
  have lt0 : ∀ x ∈ p0, x.block < W.heap.size := by obtain ⟨m, hm⟩ := k0; exact DataW.trod_lt m _ _ _ hm
  obtain ⟨x0, hK0, hok0⟩ := opens0.param h0
  obtain ⟨_, _, hcs0, ⟨A0_0, c0_0, rfl, hc0_0, hr0_0⟩, ⟨_, _, rfl, rfl, ⟨_, _, rfl, ⟨A0_2, c0_2, rfl, hc0_2, hr0_2⟩, rfl⟩⟩⟩ := hK0
  obtain rfl : cs0 = #[.slice A0_0 x0.1.length c0_0, .int .i64 x0.2.1, .slice A0_2 x0.2.2.1.length c0_2, .int .i64 x0.2.2.2] := Array.ext' (by simpa [Value.cells] using hcs0)
  clear hA0 hval0 hsz0
  obtain ⟨k, hp⟩ := Pure.BitmapRuns x0.1 x0.2.1 x0.2.2.1 x0.2.2.2 hok0.1.1 hok0.1.2 hok0.2.1 hok0.2.2.1.1 hok0.2.2.1.2 hok0.2.2.2
  refine (dioramalaw19_BitmapRuns.calls k _ _ x0.1 x0.2.1 _ _ x0.2.2.1 x0.2.2.2 true W hr0_0 hc0_0 hr0_2 hc0_2 hp).mono fun e W' ⟨he, bel⟩ => ?_
  subst he
  exact ⟨_, rfl, _, _, _, [], _, [], hW', trodAll_mk1 (shut_bool Try.underlying4 _), (trodAll_cons_mk (Below.trod laidOut (by kernel_rfl) (of_decide_eq_true (by kernel_rfl)) k0 bel lt0) trodAll_mk0), rfl, bel.frame _, fun h => by cases h⟩
theorem over : Rows.bitmapRunsRow.holds Try.pinned (OpenSpec.ofChange Rows.bitmapRunsSpec) :=
  OpenClaim.holds_of_wide 3 Try.f3 rfl rfl rfl rfl rfl rfl rfl ⟨rfl, rfl, rfl, rfl, rfl⟩ rfl rfl rfl rfl rfl (by kernel_rfl) Try.func3 (by kernel_rfl)
    (of_decide_eq_true (by kernel_rfl)) (by unfold Func.isWrapper; first | (rw [if_pos (by decide +kernel)]; kernel_rfl) | (rw [if_neg (by decide +kernel)]; exact ⟨rfl, rfl⟩))
    (fun os started H enc _ => lifted os started H enc)
theorem proved : Rows.BitmapRunsSaid := over
end Go.Proofs.Ytaebgjdaoloceaa.bitmapRuns
namespace Go.Proofs.Ytaebgjdaoloceaa
/-- The row, under a short name, for the claim. -/
theorem bitmapRuns_holds : Rows.BitmapRunsSaid := bitmapRuns.proved
end Go.Proofs.Ytaebgjdaoloceaa
