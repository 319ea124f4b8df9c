/- What pages make of an empty canvas of any size is the chapter's, with its errors (at most 12 pages). This text: the row of the statement, out of the pure theorem and the walk. -/
import Derived.Test.YtaebgjdaoloceaaRows
import Derived.Test.YtaebgjdaoloceaaLComposes
import Derived.Test.YtaebgjdaoloceaaPureBitmapComposes
import Derived.Test.YtaebgjdaoloceaaVOpen
import Derived.WalkKit
import Derived.ProofKit
import Derived.OpenShut
import Derived.ShutString
import Derived.ChangeOld
import Derived.Below
import Derived.SizedLaws
import Derived.Carry
namespace Go.Proofs.Ytaebgjdaoloceaa.bitmapComposes
open Go.ChangeShapes Go.WideShapes Go.ChangeAt Go.RowKit Go.Proofs.YtaebgjdaoloceaaW.PrintWords Go.Proofs.YtaebgjdaoloceaaV Go.Proofs.Ytaebgjdaoloceaa.QBmpC
open Go.ChangeMaps (open_string shut_string)
set_option linter.unusedVariables false
set_option linter.unusedSimpArgs false
theorem own : ownKnob Try.prog.godebug = none := by kernel_rfl
theorem laidOut : laidOutB Try.prog = true := by kernel_rfl
set_option maxRecDepth 100000 in
theorem opens0 : Opens Try.prog (Kd.slice 51 k51) 35 (fun x => x.length ≤ maxLen ∧ ∀ x0 ∈ x, (True) ∧ (x0.f1.length ≤ maxLen ∧ ∀ x1 ∈ x0.f1, (Lit.int .i64 x1).wf = true) ∧ (x0.f2.length ≤ maxLen ∧ ∀ x1 ∈ x0.f2, ((Lit.int .i64 x1.f0).wf = true) ∧ ((Lit.int .i64 x1.f1).wf = true) ∧ ((Lit.int .i64 x1.f2).wf = true) ∧ ((Lit.int .i64 x1.f3).wf = true) ∧ (x1.f4.length ≤ maxLen ∧ ∀ x2 ∈ x1.f4, (Lit.int .i64 x2).wf = true))) := (Opens.slice Try.underlying35 (by kernel_rfl) (show Opens Try.prog k51 51 (fun x : S51 => (True) ∧ (x.f1.length ≤ maxLen ∧ ∀ x0 ∈ x.f1, (Lit.int .i64 x0).wf = true) ∧ (x.f2.length ≤ maxLen ∧ ∀ x0 ∈ x.f2, ((Lit.int .i64 x0.f0).wf = true) ∧ ((Lit.int .i64 x0.f1).wf = true) ∧ ((Lit.int .i64 x0.f2).wf = true) ∧ ((Lit.int .i64 x0.f3).wf = true) ∧ (x0.f4.length ≤ maxLen ∧ ∀ x1 ∈ x0.f4, (Lit.int .i64 x1).wf = true))) from Opens.iso (d := (Kd.pair Kd.bool (Kd.pair (Kd.slice 3 (Kd.int .i64)) ((Kd.slice 91 k91))))) (Ok := (fun x : S51 => (True) ∧ (x.f1.length ≤ maxLen ∧ ∀ x0 ∈ x.f1, (Lit.int .i64 x0).wf = true) ∧ (x.f2.length ≤ maxLen ∧ ∀ x0 ∈ x.f2, ((Lit.int .i64 x0.f0).wf = true) ∧ ((Lit.int .i64 x0.f1).wf = true) ∧ ((Lit.int .i64 x0.f2).wf = true) ∧ ((Lit.int .i64 x0.f3).wf = true) ∧ (x0.f4.length ≤ maxLen ∧ ∀ x1 ∈ x0.f4, (Lit.int .i64 x1).wf = true)))) (fun x : S51 => (x.f0, x.f1, x.f2)) (fun p => (⟨p.1, p.2.1, p.2.2⟩ : S51)) (fun _ => rfl) (Opens.struct Try.underlying51 (by kernel_rfl) (OpensF.cons rfl (Opens.bool Try.underlying4 (by kernel_rfl)) (OpensF.cons rfl (Opens.slice Try.underlying22 (by kernel_rfl) (Opens.int Try.underlying3 (by kernel_rfl))) (OpensF.last rfl (Opens.slice Try.underlying49 (by kernel_rfl) (show Opens Try.prog k91 91 (fun x : S91 => ((Lit.int .i64 x.f0).wf = true) ∧ ((Lit.int .i64 x.f1).wf = true) ∧ ((Lit.int .i64 x.f2).wf = true) ∧ ((Lit.int .i64 x.f3).wf = true) ∧ (x.f4.length ≤ maxLen ∧ ∀ x0 ∈ x.f4, (Lit.int .i64 x0).wf = true)) from Opens.iso (d := (Kd.pair (Kd.int .i64) (Kd.pair (Kd.int .i64) (Kd.pair (Kd.int .i64) (Kd.pair (Kd.int .i64) ((Kd.slice 3 (Kd.int .i64)))))))) (Ok := (fun x : S91 => ((Lit.int .i64 x.f0).wf = true) ∧ ((Lit.int .i64 x.f1).wf = true) ∧ ((Lit.int .i64 x.f2).wf = true) ∧ ((Lit.int .i64 x.f3).wf = true) ∧ (x.f4.length ≤ maxLen ∧ ∀ x0 ∈ x.f4, (Lit.int .i64 x0).wf = true))) (fun x : S91 => (x.f0, x.f1, x.f2, x.f3, x.f4)) (fun p => (⟨p.1, p.2.1, p.2.2.1, p.2.2.2.1, p.2.2.2.2⟩ : S91)) (fun _ => rfl) (Opens.struct Try.underlying91 (by kernel_rfl) (OpensF.cons rfl (Opens.int Try.underlying3 (by kernel_rfl)) (OpensF.cons rfl (Opens.int Try.underlying3 (by kernel_rfl)) (OpensF.cons rfl (Opens.int Try.underlying3 (by kernel_rfl)) (OpensF.cons rfl (Opens.int Try.underlying3 (by kernel_rfl)) (OpensF.last rfl (Opens.slice Try.underlying22 (by kernel_rfl) (Opens.int Try.underlying3 (by kernel_rfl)))))))))))))))))
set_option maxRecDepth 100000 in
set_option maxHeartbeats 1000000 in
theorem lifted (os : Os) (started : os.Started) (H : Type) (enc : TypeId × Value → H) :
    ReturnsInHanded {} Try.checked os 4 .any (Rows.bitmapComposesSpec.pre6 enc Try.prog Try.f4 Rows.bitmapComposesRow.domain false) (Rows.bitmapComposesSpec.post enc Try.prog Try.f4 false true false false) := by
  refine returnsInHanded_of_change_sized (C := Try.checked) own started (by kernel_rfl) Try.func4
    (ChangeSpec.witness6 (enc := enc) (C := Try.checked) false ⟨#[], #[.slice none 0 0, .int .i64 0, .int .i64 0], []⟩ 8 (by kernel_rfl) (by kernel_rfl) (by kernel_rfl) (by kernel_rfl)) ?_
  intro W base args ds gs before hval0 hW hcnd hsz0 _
  have hval : ∀ (j : Nat) t v, Try.f4.params[j]? = some t → args[j]? = some v → Value.okWide Try.prog W .any base t v := hval0
  have hW' := hW
  obtain ⟨p, q, hA0, hV, rfl, hfz, hnd⟩ := hW
  have hA : DataW.TrodAll enc Try.prog W 0 (fun _ => true) true Try.f4.params.toList args.toList ds p := hA0
  rw [Try.params4] at hA hval
  obtain ⟨v0, vs0, d0, ds0, p0, q0, hargs, rfl, rfl, h0, r0⟩ := trodAll_cons hA
  obtain ⟨v1, vs1, d1, ds1, p1, q1, rfl, rfl, rfl, h1, r1⟩ := trodAll_cons r0
  obtain ⟨v2, vs2, d2, ds2, p2, q2, rfl, rfl, rfl, h2, r2⟩ := trodAll_cons r1
  obtain ⟨rfl, rfl, rfl⟩ := trodAll_nil r2
  obtain rfl : args = #[v0, v1, v2] := by cases args; simp_all
  obtain ⟨rfl, rfl⟩ := trodVars_none hV
  obtain ⟨a0, len0, cap0, rfl⟩ := okWide_slice Try.underlying35 (hval 0 35 v0 rfl rfl)
  have k0 := h0
  have lt0 : ∀ x ∈ p0, x.block < W.heap.size := by obtain ⟨m, hm⟩ := k0; exact DataW.trod_lt m _ _ _ hm
  obtain ⟨l0, ⟨A0, c0, e0, hc0, hr0⟩, hm0, hw0⟩ := opens0.param h0
  obtain ⟨rfl, rfl, rfl⟩ : a0 = A0 ∧ len0 = l0.length ∧ cap0 = c0 := by simpa [Value.cells] using e0
  obtain ⟨a1, rfl, rfl, rfl, w1⟩ := open_int Try.underlying3 (hval 1 3 v1 rfl rfl) h1
  obtain ⟨a2, rfl, rfl, rfl, w2⟩ := open_int Try.underlying3 (hval 2 3 v2 rfl rfl) h2
  clear hA0 hval0 hsz0
  obtain ⟨k, hp⟩ := Pure.BitmapComposes l0 a1 a2 hm0 hw0 w1 w2
  refine (dioramalaw19_BitmapComposes.calls k _ _ l0 a1 a2 true W hr0 hc0 hp).mono fun e W' ⟨he, bel⟩ => ?_
  subst he
  exact ⟨_, rfl, _, _, _, [], _, [], hW', trodAll_mk1 (shut_bool Try.underlying4 _), (trodAll_cons_mk (Below.trod laidOut (by kernel_rfl) (of_decide_eq_true (by kernel_rfl)) k0 bel lt0) (trodAll_cons_mk (shut_int Try.underlying3 w1) (trodAll_cons_mk (shut_int Try.underlying3 w2) trodAll_mk0))), rfl, bel.frame _, fun h => by cases h⟩
theorem over : Rows.bitmapComposesRow.holds Try.pinned (OpenSpec.ofChange Rows.bitmapComposesSpec) :=
  OpenClaim.holds_of_wide 4 Try.f4 rfl rfl rfl rfl rfl rfl rfl ⟨rfl, rfl, rfl, rfl, rfl⟩ rfl rfl rfl rfl rfl (by kernel_rfl) Try.func4 (by kernel_rfl)
    (of_decide_eq_true (by kernel_rfl)) (by unfold Func.isWrapper; first | (rw [if_pos (by decide +kernel)]; kernel_rfl) | (rw [if_neg (by decide +kernel)]; exact ⟨rfl, rfl⟩))
    (fun os started H enc _ => lifted os started H enc)
theorem proved : Rows.BitmapComposesSaid := over
end Go.Proofs.Ytaebgjdaoloceaa.bitmapComposes
namespace Go.Proofs.Ytaebgjdaoloceaa
/-- The row, under a short name, for the claim. -/
theorem bitmapComposes_holds : Rows.BitmapComposesSaid := bitmapComposes.proved
end Go.Proofs.Ytaebgjdaoloceaa
