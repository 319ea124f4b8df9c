/- a page's bytes, its error and the comparing of pages are the reference's, and the page of a page's bytes is the page This text: the row of the statement, out of the pure theorem and the walk. -/
import Derived.Test.YtaebgjdaoloceaaRows
import Derived.Test.YtaebgjdaoloceaaLPages
import Derived.Test.YtaebgjdaoloceaaPureBitmapPages
import Derived.Test.YtaebgjdaoloceaaVOpen
import Derived.WalkKit
import Derived.ProofKit
import Derived.OpenShut
import Derived.ShutString
import Derived.ChangeOld
import Derived.Below
import Derived.SizedLaws
import Derived.Carry
namespace Go.Proofs.Ytaebgjdaoloceaa.bitmapPages
open Go.ChangeShapes Go.WideShapes Go.ChangeAt Go.RowKit Go.Proofs.YtaebgjdaoloceaaW.PrintWords Go.Proofs.YtaebgjdaoloceaaV Go.Proofs.Ytaebgjdaoloceaa.QBmpP
open Go.ChangeMaps (open_string shut_string)
set_option linter.unusedVariables false
set_option linter.unusedSimpArgs false
theorem own : ownKnob Try.prog.godebug = none := by kernel_rfl
theorem laidOut : laidOutB Try.prog = true := by kernel_rfl
set_option maxRecDepth 100000 in
theorem opens0 : Opens Try.prog (Kd.pair Kd.bool (Kd.pair (Kd.slice 3 (Kd.int .i64)) ((Kd.slice 91 k91)))) 51 (fun x => (True) ∧ (x.2.1.length ≤ maxLen ∧ ∀ x0 ∈ x.2.1, (Lit.int .i64 x0).wf = true) ∧ (x.2.2.length ≤ maxLen ∧ ∀ x0 ∈ x.2.2, ((Lit.int .i64 x0.f0).wf = true) ∧ ((Lit.int .i64 x0.f1).wf = true) ∧ ((Lit.int .i64 x0.f2).wf = true) ∧ ((Lit.int .i64 x0.f3).wf = true) ∧ (x0.f4.length ≤ maxLen ∧ ∀ x1 ∈ x0.f4, (Lit.int .i64 x1).wf = true))) := (Opens.struct Try.underlying51 (by kernel_rfl) (OpensF.cons rfl (Opens.bool Try.underlying4 (by kernel_rfl)) (OpensF.cons rfl (Opens.slice Try.underlying22 (by kernel_rfl) (Opens.int Try.underlying3 (by kernel_rfl))) (OpensF.last rfl (Opens.slice Try.underlying49 (by kernel_rfl) (show Opens Try.prog k91 91 (fun x : S91 => ((Lit.int .i64 x.f0).wf = true) ∧ ((Lit.int .i64 x.f1).wf = true) ∧ ((Lit.int .i64 x.f2).wf = true) ∧ ((Lit.int .i64 x.f3).wf = true) ∧ (x.f4.length ≤ maxLen ∧ ∀ x0 ∈ x.f4, (Lit.int .i64 x0).wf = true)) from Opens.iso (d := (Kd.pair (Kd.int .i64) (Kd.pair (Kd.int .i64) (Kd.pair (Kd.int .i64) (Kd.pair (Kd.int .i64) ((Kd.slice 3 (Kd.int .i64)))))))) (Ok := (fun x : S91 => ((Lit.int .i64 x.f0).wf = true) ∧ ((Lit.int .i64 x.f1).wf = true) ∧ ((Lit.int .i64 x.f2).wf = true) ∧ ((Lit.int .i64 x.f3).wf = true) ∧ (x.f4.length ≤ maxLen ∧ ∀ x0 ∈ x.f4, (Lit.int .i64 x0).wf = true))) (fun x : S91 => (x.f0, x.f1, x.f2, x.f3, x.f4)) (fun p => (⟨p.1, p.2.1, p.2.2.1, p.2.2.2.1, p.2.2.2.2⟩ : S91)) (fun _ => rfl) (Opens.struct Try.underlying91 (by kernel_rfl) (OpensF.cons rfl (Opens.int Try.underlying3 (by kernel_rfl)) (OpensF.cons rfl (Opens.int Try.underlying3 (by kernel_rfl)) (OpensF.cons rfl (Opens.int Try.underlying3 (by kernel_rfl)) (OpensF.cons rfl (Opens.int Try.underlying3 (by kernel_rfl)) (OpensF.last rfl (Opens.slice Try.underlying22 (by kernel_rfl) (Opens.int Try.underlying3 (by kernel_rfl)))))))))))))))
set_option maxRecDepth 100000 in
theorem opens1 : Opens Try.prog (Kd.pair Kd.bool (Kd.pair (Kd.slice 3 (Kd.int .i64)) ((Kd.slice 91 k91)))) 51 (fun x => (True) ∧ (x.2.1.length ≤ maxLen ∧ ∀ x0 ∈ x.2.1, (Lit.int .i64 x0).wf = true) ∧ (x.2.2.length ≤ maxLen ∧ ∀ x0 ∈ x.2.2, ((Lit.int .i64 x0.f0).wf = true) ∧ ((Lit.int .i64 x0.f1).wf = true) ∧ ((Lit.int .i64 x0.f2).wf = true) ∧ ((Lit.int .i64 x0.f3).wf = true) ∧ (x0.f4.length ≤ maxLen ∧ ∀ x1 ∈ x0.f4, (Lit.int .i64 x1).wf = true))) := (Opens.struct Try.underlying51 (by kernel_rfl) (OpensF.cons rfl (Opens.bool Try.underlying4 (by kernel_rfl)) (OpensF.cons rfl (Opens.slice Try.underlying22 (by kernel_rfl) (Opens.int Try.underlying3 (by kernel_rfl))) (OpensF.last rfl (Opens.slice Try.underlying49 (by kernel_rfl) (show Opens Try.prog k91 91 (fun x : S91 => ((Lit.int .i64 x.f0).wf = true) ∧ ((Lit.int .i64 x.f1).wf = true) ∧ ((Lit.int .i64 x.f2).wf = true) ∧ ((Lit.int .i64 x.f3).wf = true) ∧ (x.f4.length ≤ maxLen ∧ ∀ x0 ∈ x.f4, (Lit.int .i64 x0).wf = true)) from Opens.iso (d := (Kd.pair (Kd.int .i64) (Kd.pair (Kd.int .i64) (Kd.pair (Kd.int .i64) (Kd.pair (Kd.int .i64) ((Kd.slice 3 (Kd.int .i64)))))))) (Ok := (fun x : S91 => ((Lit.int .i64 x.f0).wf = true) ∧ ((Lit.int .i64 x.f1).wf = true) ∧ ((Lit.int .i64 x.f2).wf = true) ∧ ((Lit.int .i64 x.f3).wf = true) ∧ (x.f4.length ≤ maxLen ∧ ∀ x0 ∈ x.f4, (Lit.int .i64 x0).wf = true))) (fun x : S91 => (x.f0, x.f1, x.f2, x.f3, x.f4)) (fun p => (⟨p.1, p.2.1, p.2.2.1, p.2.2.2.1, p.2.2.2.2⟩ : S91)) (fun _ => rfl) (Opens.struct Try.underlying91 (by kernel_rfl) (OpensF.cons rfl (Opens.int Try.underlying3 (by kernel_rfl)) (OpensF.cons rfl (Opens.int Try.underlying3 (by kernel_rfl)) (OpensF.cons rfl (Opens.int Try.underlying3 (by kernel_rfl)) (OpensF.cons rfl (Opens.int Try.underlying3 (by kernel_rfl)) (OpensF.last rfl (Opens.slice Try.underlying22 (by kernel_rfl) (Opens.int Try.underlying3 (by kernel_rfl)))))))))))))))
set_option maxRecDepth 100000 in
set_option maxHeartbeats 1000000 in
theorem lifted (os : Os) (started : os.Started) (H : Type) (enc : TypeId × Value → H) :
    ReturnsInHanded {} Try.checked os 9 .any (Rows.bitmapPagesSpec.pre6 enc Try.prog Try.f9 Rows.bitmapPagesRow.domain false) (Rows.bitmapPagesSpec.post enc Try.prog Try.f9 false true false false) := by
  refine returnsInHanded_of_change_sized (C := Try.checked) own started (by kernel_rfl) Try.func9
    (ChangeSpec.witness6 (enc := enc) (C := Try.checked) false ⟨#[], #[.agg #[.bool false, .slice none 0 0, .slice none 0 0], .agg #[.bool false, .slice none 0 0, .slice none 0 0]], []⟩ 8 (by kernel_rfl) (by kernel_rfl) (by kernel_rfl) (by kernel_rfl)) ?_
  intro W base args ds gs before hval0 hW hcnd hsz0 _
  have hval : ∀ (j : Nat) t v, Try.f9.params[j]? = some t → args[j]? = some v → Value.okWide Try.prog W .any base t v := hval0
  have hW' := hW
  obtain ⟨p, q, hA0, hV, rfl, hfz, hnd⟩ := hW
  have hA : DataW.TrodAll enc Try.prog W 0 (fun _ => true) true Try.f9.params.toList args.toList ds p := hA0
  rw [Try.params9] at hA hval
  obtain ⟨v0, vs0, d0, ds0, p0, q0, hargs, rfl, rfl, h0, r0⟩ := trodAll_cons hA
  obtain ⟨v1, vs1, d1, ds1, p1, q1, rfl, rfl, rfl, h1, r1⟩ := trodAll_cons r0
  obtain ⟨rfl, rfl, rfl⟩ := trodAll_nil r1
  obtain rfl : args = #[v0, v1] := by cases args; simp_all
  obtain ⟨rfl, rfl⟩ := trodVars_none hV
  obtain ⟨cs0, rfl, hsz0⟩ := okWide_struct Try.underlying51 (hval 0 51 v0 rfl rfl)
  have k0 := h0
  have lt0 : ∀ x ∈ p0, x.block < W.heap.size := by obtain ⟨m, hm⟩ := k0; exact DataW.trod_lt m _ _ _ hm
  obtain ⟨x0, hK0, hok0⟩ := opens0.param h0
  obtain ⟨_, _, hcs0, rfl, ⟨_, _, rfl, ⟨A0_1, c0_1, rfl, hc0_1, hr0_1⟩, ⟨A0_2, c0_2, rfl, hc0_2, hr0_2⟩⟩⟩ := hK0
  obtain rfl : cs0 = #[.bool x0.1, .slice A0_1 x0.2.1.length c0_1, .slice A0_2 x0.2.2.length c0_2] := Array.ext' (by simpa [Value.cells] using hcs0)
  obtain ⟨cs1, rfl, hsz1⟩ := okWide_struct Try.underlying51 (hval 1 51 v1 rfl rfl)
  have k1 := h1
  have lt1 : ∀ x ∈ p1, x.block < W.heap.size := by obtain ⟨m, hm⟩ := k1; exact DataW.trod_lt m _ _ _ hm
  obtain ⟨x1, hK1, hok1⟩ := opens1.param h1
  obtain ⟨_, _, hcs1, rfl, ⟨_, _, rfl, ⟨A1_1, c1_1, rfl, hc1_1, hr1_1⟩, ⟨A1_2, c1_2, rfl, hc1_2, hr1_2⟩⟩⟩ := hK1
  obtain rfl : cs1 = #[.bool x1.1, .slice A1_1 x1.2.1.length c1_1, .slice A1_2 x1.2.2.length c1_2] := Array.ext' (by simpa [Value.cells] using hcs1)
  clear hA0 hval0 hsz0
  obtain ⟨k, hp⟩ := Pure.BitmapPages x0.1 x0.2.1 x0.2.2 x1.1 x1.2.1 x1.2.2 hok0.2.1.1 hok0.2.1.2 hok0.2.2.1 hok0.2.2.2 hok1.2.1.1 hok1.2.1.2 hok1.2.2.1 hok1.2.2.2
  refine (dioramalaw19_BitmapPages.calls k x0.1 _ _ x0.2.1 _ _ x0.2.2 x1.1 _ _ x1.2.1 _ _ x1.2.2 true W hr0_1 hc0_1 hr0_2 hc0_2 hr1_1 hc1_1 hr1_2 hc1_2 hp).mono fun e W' ⟨he, bel⟩ => ?_
  subst he
  exact ⟨_, rfl, _, _, _, [], _, [], hW', trodAll_mk1 (shut_bool Try.underlying4 _), (trodAll_cons_mk (Below.trod laidOut (by kernel_rfl) (of_decide_eq_true (by kernel_rfl)) k0 bel lt0) (trodAll_cons_mk (Below.trod laidOut (by kernel_rfl) (of_decide_eq_true (by kernel_rfl)) k1 bel lt1) trodAll_mk0)), rfl, bel.frame _, fun h => by cases h⟩
theorem over : Rows.bitmapPagesRow.holds Try.pinned (OpenSpec.ofChange Rows.bitmapPagesSpec) :=
  OpenClaim.holds_of_wide 9 Try.f9 rfl rfl rfl rfl rfl rfl rfl ⟨rfl, rfl, rfl, rfl, rfl⟩ rfl rfl rfl rfl rfl (by kernel_rfl) Try.func9 (by kernel_rfl)
    (of_decide_eq_true (by kernel_rfl)) (by unfold Func.isWrapper; first | (rw [if_pos (by decide +kernel)]; kernel_rfl) | (rw [if_neg (by decide +kernel)]; exact ⟨rfl, rfl⟩))
    (fun os started H enc _ => lifted os started H enc)
theorem proved : Rows.BitmapPagesSaid := over
end Go.Proofs.Ytaebgjdaoloceaa.bitmapPages
namespace Go.Proofs.Ytaebgjdaoloceaa
/-- The row, under a short name, for the claim. -/
theorem bitmapPages_holds : Rows.BitmapPagesSaid := bitmapPages.proved
end Go.Proofs.Ytaebgjdaoloceaa
