/- each sample by itself is what the whole says of it; the last sample at its decode time is itself; its chunk holds it This text: the row of the statement, out of the pure theorem and the walk. -/
import Derived.Test.YtmbhafgnmdfjhaaRows
import Derived.Test.YtmbhafgnmdfjhaaLAgrM
import Derived.Test.YtmbhafgnmdfjhaaPureTableAgree
import Derived.Test.YtmbhafgnmdfjhaaVOpen
import Derived.WalkKit
import Derived.ProofKit
import Derived.OpenShut
import Derived.ShutString
import Derived.ChangeOld
import Derived.Below
import Derived.SizedLaws
import Derived.Carry
namespace Go.Proofs.Ytmbhafgnmdfjhaa.tableAgree
open Go.ChangeShapes Go.WideShapes Go.ChangeAt Go.RowKit Go.Proofs.YtmbhafgnmdfjhaaW.PrintWords Go.Proofs.YtmbhafgnmdfjhaaV Go.Proofs.Ytmbhafgnmdfjhaa.QTab
open Go.ChangeMaps (open_string shut_string)
set_option linter.unusedVariables false
set_option linter.unusedSimpArgs false
theorem own : ownKnob Try.prog.godebug = none := by kernel_rfl
theorem laidOut : laidOutB Try.prog = true := by kernel_rfl
set_option maxRecDepth 100000 in
theorem opens0 : Opens Try.prog (Kd.pair (Kd.int .i64) (Kd.pair (Kd.slice 83 k83) (Kd.pair (Kd.slice 83 k83) (Kd.pair (Kd.slice 3 (Kd.int .i64)) (Kd.pair Kd.bool (Kd.pair (Kd.int .i64) (Kd.pair (Kd.slice 3 (Kd.int .i64)) (Kd.pair (Kd.slice 86 k86) (Kd.pair (Kd.slice 3 (Kd.int .i64)) (Kd.pair (Kd.slice 83 k83) ((Kd.slice 23 (Kd.slice 3 (Kd.int .i64)))))))))))))) 27 (fun x => ((Lit.int .i64 x.1).wf = true) ∧ (x.2.1.length ≤ maxLen ∧ ∀ x0 ∈ x.2.1, ((Lit.int .i64 x0.f0).wf = true) ∧ ((Lit.int .i64 x0.f1).wf = true)) ∧ (x.2.2.1.length ≤ maxLen ∧ ∀ x0 ∈ x.2.2.1, ((Lit.int .i64 x0.f0).wf = true) ∧ ((Lit.int .i64 x0.f1).wf = true)) ∧ (x.2.2.2.1.length ≤ maxLen ∧ ∀ x0 ∈ x.2.2.2.1, (Lit.int .i64 x0).wf = true) ∧ (True) ∧ ((Lit.int .i64 x.2.2.2.2.2.1).wf = true) ∧ (x.2.2.2.2.2.2.1.length ≤ maxLen ∧ ∀ x0 ∈ x.2.2.2.2.2.2.1, (Lit.int .i64 x0).wf = true) ∧ (x.2.2.2.2.2.2.2.1.length ≤ maxLen ∧ ∀ x0 ∈ x.2.2.2.2.2.2.2.1, ((Lit.int .i64 x0.f0).wf = true) ∧ ((Lit.int .i64 x0.f1).wf = true)) ∧ (x.2.2.2.2.2.2.2.2.1.length ≤ maxLen ∧ ∀ x0 ∈ x.2.2.2.2.2.2.2.2.1, (Lit.int .i64 x0).wf = true) ∧ (x.2.2.2.2.2.2.2.2.2.1.length ≤ maxLen ∧ ∀ x0 ∈ x.2.2.2.2.2.2.2.2.2.1, ((Lit.int .i64 x0.f0).wf = true) ∧ ((Lit.int .i64 x0.f1).wf = true)) ∧ (x.2.2.2.2.2.2.2.2.2.2.length ≤ maxLen ∧ ∀ x0 ∈ x.2.2.2.2.2.2.2.2.2.2, x0.length ≤ maxLen ∧ ∀ x1 ∈ x0, (Lit.int .i64 x1).wf = true)) := (Opens.struct Try.underlying27 (by kernel_rfl) (OpensF.cons rfl (Opens.int Try.underlying3 (by kernel_rfl)) (OpensF.cons rfl (Opens.slice Try.underlying22 (by kernel_rfl) (show Opens Try.prog k83 83 (fun x : S83 => ((Lit.int .i64 x.f0).wf = true) ∧ ((Lit.int .i64 x.f1).wf = true)) from Opens.iso (d := (Kd.pair (Kd.int .i64) ((Kd.int .i64)))) (Ok := (fun x : S83 => ((Lit.int .i64 x.f0).wf = true) ∧ ((Lit.int .i64 x.f1).wf = true))) (fun x : S83 => (x.f0, x.f1)) (fun p => (⟨p.1, p.2⟩ : S83)) (fun _ => rfl) (Opens.struct Try.underlying83 (by kernel_rfl) (OpensF.cons rfl (Opens.int Try.underlying3 (by kernel_rfl)) (OpensF.last rfl (Opens.int Try.underlying3 (by kernel_rfl))))))) (OpensF.cons rfl (Opens.slice Try.underlying22 (by kernel_rfl) (show Opens Try.prog k83 83 (fun x : S83 => ((Lit.int .i64 x.f0).wf = true) ∧ ((Lit.int .i64 x.f1).wf = true)) from Opens.iso (d := (Kd.pair (Kd.int .i64) ((Kd.int .i64)))) (Ok := (fun x : S83 => ((Lit.int .i64 x.f0).wf = true) ∧ ((Lit.int .i64 x.f1).wf = true))) (fun x : S83 => (x.f0, x.f1)) (fun p => (⟨p.1, p.2⟩ : S83)) (fun _ => rfl) (Opens.struct Try.underlying83 (by kernel_rfl) (OpensF.cons rfl (Opens.int Try.underlying3 (by kernel_rfl)) (OpensF.last rfl (Opens.int Try.underlying3 (by kernel_rfl))))))) (OpensF.cons rfl (Opens.slice Try.underlying23 (by kernel_rfl) (Opens.int Try.underlying3 (by kernel_rfl))) (OpensF.cons rfl (Opens.bool Try.underlying4 (by kernel_rfl)) (OpensF.cons rfl (Opens.int Try.underlying3 (by kernel_rfl)) (OpensF.cons rfl (Opens.slice Try.underlying23 (by kernel_rfl) (Opens.int Try.underlying3 (by kernel_rfl))) (OpensF.cons rfl (Opens.slice Try.underlying24 (by kernel_rfl) (show Opens Try.prog k86 86 (fun x : S86 => ((Lit.int .i64 x.f0).wf = true) ∧ ((Lit.int .i64 x.f1).wf = true)) from Opens.iso (d := (Kd.pair (Kd.int .i64) ((Kd.int .i64)))) (Ok := (fun x : S86 => ((Lit.int .i64 x.f0).wf = true) ∧ ((Lit.int .i64 x.f1).wf = true))) (fun x : S86 => (x.f0, x.f1)) (fun p => (⟨p.1, p.2⟩ : S86)) (fun _ => rfl) (Opens.struct Try.underlying86 (by kernel_rfl) (OpensF.cons rfl (Opens.int Try.underlying3 (by kernel_rfl)) (OpensF.last rfl (Opens.int Try.underlying3 (by kernel_rfl))))))) (OpensF.cons rfl (Opens.slice Try.underlying23 (by kernel_rfl) (Opens.int Try.underlying3 (by kernel_rfl))) (OpensF.cons rfl (Opens.slice Try.underlying22 (by kernel_rfl) (show Opens Try.prog k83 83 (fun x : S83 => ((Lit.int .i64 x.f0).wf = true) ∧ ((Lit.int .i64 x.f1).wf = true)) from Opens.iso (d := (Kd.pair (Kd.int .i64) ((Kd.int .i64)))) (Ok := (fun x : S83 => ((Lit.int .i64 x.f0).wf = true) ∧ ((Lit.int .i64 x.f1).wf = true))) (fun x : S83 => (x.f0, x.f1)) (fun p => (⟨p.1, p.2⟩ : S83)) (fun _ => rfl) (Opens.struct Try.underlying83 (by kernel_rfl) (OpensF.cons rfl (Opens.int Try.underlying3 (by kernel_rfl)) (OpensF.last rfl (Opens.int Try.underlying3 (by kernel_rfl))))))) (OpensF.last rfl (Opens.slice Try.underlying25 (by kernel_rfl) (Opens.slice Try.underlying23 (by kernel_rfl) (Opens.int Try.underlying3 (by kernel_rfl))))))))))))))))
set_option maxRecDepth 100000 in
set_option maxHeartbeats 1000000 in
theorem lifted (os : Os) (started : os.Started) (H : Type) (enc : TypeId × Value → H) :
    ReturnsInHanded {} Try.checked os 7 .any (Rows.tableAgreeSpec.pre6 enc Try.prog Try.f7 Rows.tableAgreeRow.domain false) (Rows.tableAgreeSpec.post enc Try.prog Try.f7 false true false false) := by
  refine returnsInHanded_of_change_sized (C := Try.checked) own started (by kernel_rfl) Try.func7
    (ChangeSpec.witness6 (enc := enc) (C := Try.checked) false ⟨#[], #[.agg #[.int .i64 0, .slice none 0 0, .slice none 0 0, .slice none 0 0, .bool false, .int .i64 0, .slice none 0 0, .slice none 0 0, .slice none 0 0, .slice none 0 0, .slice none 0 0]], []⟩ 8 (by kernel_rfl) (by kernel_rfl) (by kernel_rfl) (by kernel_rfl)) ?_
  intro W base args ds gs before hval0 hW hcnd hsz0 _
  have hval : ∀ (j : Nat) t v, Try.f7.params[j]? = some t → args[j]? = some v → Value.okWide Try.prog W .any base t v := hval0
  have hW' := hW
  obtain ⟨p, q, hA0, hV, rfl, hfz, hnd⟩ := hW
  have hA : DataW.TrodAll enc Try.prog W 0 (fun _ => true) true Try.f7.params.toList args.toList ds p := hA0
  rw [Try.params7] at hA hval
  obtain ⟨v0, vs0, d0, ds0, p0, q0, hargs, rfl, rfl, h0, r0⟩ := trodAll_cons hA
  obtain ⟨rfl, rfl, rfl⟩ := trodAll_nil r0
  obtain rfl : args = #[v0] := by cases args; simp_all
  obtain ⟨rfl, rfl⟩ := trodVars_none hV
  obtain ⟨cs0, rfl, hsz0⟩ := okWide_struct Try.underlying27 (hval 0 27 v0 rfl rfl)
  have k0 := h0
  have lt0 : ∀ x ∈ p0, x.block < W.heap.size := by obtain ⟨m, hm⟩ := k0; exact DataW.trod_lt m _ _ _ hm
  obtain ⟨x0, hK0, hok0⟩ := opens0.param h0
  obtain ⟨_, _, hcs0, rfl, ⟨_, _, rfl, ⟨A0_1, c0_1, rfl, hc0_1, hr0_1⟩, ⟨_, _, rfl, ⟨A0_2, c0_2, rfl, hc0_2, hr0_2⟩, ⟨_, _, rfl, ⟨A0_3, c0_3, rfl, hc0_3, hr0_3⟩, ⟨_, _, rfl, rfl, ⟨_, _, rfl, rfl, ⟨_, _, rfl, ⟨A0_6, c0_6, rfl, hc0_6, hr0_6⟩, ⟨_, _, rfl, ⟨A0_7, c0_7, rfl, hc0_7, hr0_7⟩, ⟨_, _, rfl, ⟨A0_8, c0_8, rfl, hc0_8, hr0_8⟩, ⟨_, _, rfl, ⟨A0_9, c0_9, rfl, hc0_9, hr0_9⟩, ⟨A0_10, c0_10, rfl, hc0_10, hr0_10⟩⟩⟩⟩⟩⟩⟩⟩⟩⟩⟩ := hK0
  obtain rfl : cs0 = #[.int .i64 x0.1, .slice A0_1 x0.2.1.length c0_1, .slice A0_2 x0.2.2.1.length c0_2, .slice A0_3 x0.2.2.2.1.length c0_3, .bool x0.2.2.2.2.1, .int .i64 x0.2.2.2.2.2.1, .slice A0_6 x0.2.2.2.2.2.2.1.length c0_6, .slice A0_7 x0.2.2.2.2.2.2.2.1.length c0_7, .slice A0_8 x0.2.2.2.2.2.2.2.2.1.length c0_8, .slice A0_9 x0.2.2.2.2.2.2.2.2.2.1.length c0_9, .slice A0_10 x0.2.2.2.2.2.2.2.2.2.2.length c0_10] := Array.ext' (by simpa [Value.cells] using hcs0)
  clear hA0 hval0 hsz0
  have hp := Pure.TableAgree x0.1 x0.2.1 x0.2.2.1 x0.2.2.2.1 x0.2.2.2.2.1 x0.2.2.2.2.2.1 x0.2.2.2.2.2.2.1 x0.2.2.2.2.2.2.2.1 x0.2.2.2.2.2.2.2.2.1 x0.2.2.2.2.2.2.2.2.2.1 x0.2.2.2.2.2.2.2.2.2.2 hok0.1 hok0.2.1.1 hok0.2.1.2 hok0.2.2.1.1 hok0.2.2.1.2 hok0.2.2.2.1.1 hok0.2.2.2.1.2 hok0.2.2.2.2.2.1 hok0.2.2.2.2.2.2.1.1 hok0.2.2.2.2.2.2.1.2 hok0.2.2.2.2.2.2.2.1.1 hok0.2.2.2.2.2.2.2.1.2 hok0.2.2.2.2.2.2.2.2.1.1 hok0.2.2.2.2.2.2.2.2.1.2 hok0.2.2.2.2.2.2.2.2.2.1.1 hok0.2.2.2.2.2.2.2.2.2.1.2 hok0.2.2.2.2.2.2.2.2.2.2.1 hok0.2.2.2.2.2.2.2.2.2.2.2
  refine (dioramalaw09_TableAgree.calls x0.1 _ _ x0.2.1 _ _ x0.2.2.1 _ _ x0.2.2.2.1 x0.2.2.2.2.1 x0.2.2.2.2.2.1 _ _ x0.2.2.2.2.2.2.1 _ _ x0.2.2.2.2.2.2.2.1 _ _ x0.2.2.2.2.2.2.2.2.1 _ _ x0.2.2.2.2.2.2.2.2.2.1 _ _ x0.2.2.2.2.2.2.2.2.2.2 true W hr0_1 hc0_1 hr0_2 hc0_2 hr0_3 hc0_3 hr0_6 hc0_6 hr0_7 hc0_7 hr0_8 hc0_8 hr0_9 hc0_9 hr0_10 hc0_10 hp).mono fun e W' ⟨he, bel⟩ => ?_
  subst he
  exact ⟨_, rfl, _, _, _, [], _, [], hW', trodAll_mk1 (shut_bool Try.underlying4 _), (trodAll_cons_mk (Below.trod laidOut (by kernel_rfl) (of_decide_eq_true (by kernel_rfl)) k0 bel lt0) trodAll_mk0), rfl, bel.frame _, fun h => by cases h⟩
theorem over : Rows.tableAgreeRow.holds Try.pinned (OpenSpec.ofChange Rows.tableAgreeSpec) :=
  OpenClaim.holds_of_wide 7 Try.f7 rfl rfl rfl rfl rfl rfl rfl ⟨rfl, rfl, rfl, rfl, rfl⟩ rfl rfl rfl rfl rfl (by kernel_rfl) Try.func7 (by kernel_rfl)
    (of_decide_eq_true (by kernel_rfl)) (by unfold Func.isWrapper; first | (rw [if_pos (by decide +kernel)]; kernel_rfl) | (rw [if_neg (by decide +kernel)]; exact ⟨rfl, rfl⟩))
    (fun os started H enc _ => lifted os started H enc)
theorem proved : Rows.TableAgreeSaid := over
end Go.Proofs.Ytmbhafgnmdfjhaa.tableAgree
namespace Go.Proofs.Ytmbhafgnmdfjhaa
/-- The row, under a short name, for the claim. -/
theorem tableAgree_holds : Rows.TableAgreeSaid := tableAgree.proved
end Go.Proofs.Ytmbhafgnmdfjhaa
