/- any part of any sound, any two sounds one behind the other, and whether they are the same, are the chapter's This text: the row of the statement, out of the pure theorem and the walk. -/
import Derived.Test.YtdiemkeflmflaaaRows
import Derived.Test.YtdiemkeflmflaaaLCuts
import Derived.Test.YtdiemkeflmflaaaPureSoundCuts
import Derived.Test.YtdiemkeflmflaaaVOpen
import Derived.WalkKit
import Derived.ProofKit
import Derived.OpenShut
import Derived.ShutString
import Derived.ChangeOld
import Derived.Below
import Derived.SizedLaws
import Derived.Carry
namespace Go.Proofs.Ytdiemkeflmflaaa.soundCuts
open Go.ChangeShapes Go.WideShapes Go.ChangeAt Go.RowKit Go.Proofs.YtdiemkeflmflaaaW.PrintWords Go.Proofs.YtdiemkeflmflaaaV Go.Proofs.Ytdiemkeflmflaaa.QSound
open Go.ChangeMaps (open_string shut_string)
set_option linter.unusedVariables false
set_option linter.unusedSimpArgs false
theorem own : ownKnob Try.prog.godebug = none := by kernel_rfl
theorem laidOut : laidOutB Try.prog = true := by kernel_rfl
set_option maxRecDepth 100000 in
theorem opens0 : Opens Try.prog (Kd.pair (Kd.int .i64) ((Kd.slice 22 (Kd.slice 3 (Kd.int .i64))))) 46 (fun x => ((Lit.int .i64 x.1).wf = true) ∧ (x.2.length ≤ maxLen ∧ ∀ x0 ∈ x.2, x0.length ≤ maxLen ∧ ∀ x1 ∈ x0, (Lit.int .i64 x1).wf = true)) := (Opens.struct Try.underlying46 (by kernel_rfl) (OpensF.cons rfl (Opens.int Try.underlying3 (by kernel_rfl)) (OpensF.last rfl (Opens.slice Try.underlying44 (by kernel_rfl) (Opens.slice Try.underlying22 (by kernel_rfl) (Opens.int Try.underlying3 (by kernel_rfl)))))))
set_option maxRecDepth 100000 in
theorem opens1 : Opens Try.prog (Kd.pair (Kd.int .i64) ((Kd.slice 22 (Kd.slice 3 (Kd.int .i64))))) 46 (fun x => ((Lit.int .i64 x.1).wf = true) ∧ (x.2.length ≤ maxLen ∧ ∀ x0 ∈ x.2, x0.length ≤ maxLen ∧ ∀ x1 ∈ x0, (Lit.int .i64 x1).wf = true)) := (Opens.struct Try.underlying46 (by kernel_rfl) (OpensF.cons rfl (Opens.int Try.underlying3 (by kernel_rfl)) (OpensF.last rfl (Opens.slice Try.underlying44 (by kernel_rfl) (Opens.slice Try.underlying22 (by kernel_rfl) (Opens.int Try.underlying3 (by kernel_rfl)))))))
set_option maxRecDepth 100000 in
theorem opens2 : Opens Try.prog (Kd.pair (Kd.int .i64) ((Kd.int .i64))) 56 (fun x => ((Lit.int .i64 x.1).wf = true) ∧ ((Lit.int .i64 x.2).wf = true)) := (Opens.array (e := 3) Try.underlying56 (by kernel_rfl) (fs := [⟨"", 3, 0, false, "", "", 0⟩, ⟨"", 3, 1, false, "", "", 0⟩]) (by
    intro f hf
    simp only [List.mem_cons, List.not_mem_nil, or_false] at hf
    rcases hf with rfl | rfl
    · exact ⟨0, by omega, rfl, by kernel_rfl⟩
    · exact ⟨1, by omega, rfl, by kernel_rfl⟩) (OpensF.cons rfl (Opens.int Try.underlying3 (by kernel_rfl)) (OpensF.last rfl (Opens.int Try.underlying3 (by kernel_rfl)))))
set_option maxRecDepth 100000 in
set_option maxHeartbeats 1000000 in
theorem lifted (os : Os) (started : os.Started) (H : Type) (enc : TypeId × Value → H) :
    ReturnsInHanded {} Try.checked os 9 .any (Rows.soundCutsSpec.pre6 enc Try.prog Try.f9 Rows.soundCutsRow.domain false) (Rows.soundCutsSpec.post enc Try.prog Try.f9 false true false false) := by
  refine returnsInHanded_of_change_sized (C := Try.checked) own started (by kernel_rfl) Try.func9
    (ChangeSpec.witness6 (enc := enc) (C := Try.checked) false ⟨#[], #[.agg #[.int .i64 0, .slice none 0 0], .agg #[.int .i64 0, .slice none 0 0], .agg #[.int .i64 0, .int .i64 0]], []⟩ 8 (by kernel_rfl) (by kernel_rfl) (by kernel_rfl) (by kernel_rfl)) ?_
  intro W base args ds gs before hval0 hW hcnd hsz0 _
  have hval : ∀ (j : Nat) t v, Try.f9.params[j]? = some t → args[j]? = some v → Value.okWide Try.prog W .any base t v := hval0
  have hW' := hW
  obtain ⟨p, q, hA0, hV, rfl, hfz, hnd⟩ := hW
  have hA : DataW.TrodAll enc Try.prog W 0 (fun _ => true) true Try.f9.params.toList args.toList ds p := hA0
  rw [Try.params9] at hA hval
  obtain ⟨v0, vs0, d0, ds0, p0, q0, hargs, rfl, rfl, h0, r0⟩ := trodAll_cons hA
  obtain ⟨v1, vs1, d1, ds1, p1, q1, rfl, rfl, rfl, h1, r1⟩ := trodAll_cons r0
  obtain ⟨v2, vs2, d2, ds2, p2, q2, rfl, rfl, rfl, h2, r2⟩ := trodAll_cons r1
  obtain ⟨rfl, rfl, rfl⟩ := trodAll_nil r2
  obtain rfl : args = #[v0, v1, v2] := by cases args; simp_all
  obtain ⟨rfl, rfl⟩ := trodVars_none hV
  obtain ⟨cs0, rfl, hsz0⟩ := okWide_struct Try.underlying46 (hval 0 46 v0 rfl rfl)
  have k0 := h0
  have lt0 : ∀ x ∈ p0, x.block < W.heap.size := by obtain ⟨m, hm⟩ := k0; exact DataW.trod_lt m _ _ _ hm
  obtain ⟨x0, hK0, hok0⟩ := opens0.param h0
  obtain ⟨_, _, hcs0, rfl, ⟨A0_1, c0_1, rfl, hc0_1, hr0_1⟩⟩ := hK0
  obtain rfl : cs0 = #[.int .i64 x0.1, .slice A0_1 x0.2.length c0_1] := Array.ext' (by simpa [Value.cells] using hcs0)
  obtain ⟨cs1, rfl, hsz1⟩ := okWide_struct Try.underlying46 (hval 1 46 v1 rfl rfl)
  have k1 := h1
  have lt1 : ∀ x ∈ p1, x.block < W.heap.size := by obtain ⟨m, hm⟩ := k1; exact DataW.trod_lt m _ _ _ hm
  obtain ⟨x1, hK1, hok1⟩ := opens1.param h1
  obtain ⟨_, _, hcs1, rfl, ⟨A1_1, c1_1, rfl, hc1_1, hr1_1⟩⟩ := hK1
  obtain rfl : cs1 = #[.int .i64 x1.1, .slice A1_1 x1.2.length c1_1] := Array.ext' (by simpa [Value.cells] using hcs1)
  obtain ⟨cs2, rfl, hsz2⟩ := okWide_array Try.underlying56 (hval 2 56 v2 rfl rfl)
  have k2 := h2
  have lt2 : ∀ x ∈ p2, x.block < W.heap.size := by obtain ⟨m, hm⟩ := k2; exact DataW.trod_lt m _ _ _ hm
  obtain ⟨x2, hK2, hok2⟩ := opens2.param h2
  obtain ⟨_, _, hcs2, rfl, rfl⟩ := hK2
  obtain rfl : cs2 = #[.int .i64 x2.1, .int .i64 x2.2] := Array.ext' (by simpa [Value.cells] using hcs2)
  clear hA0 hval0 hsz0
  obtain ⟨k, hp⟩ := Pure.SoundCuts x0.1 x0.2 x1.1 x1.2 x2.1 x2.2 hok0.1 hok0.2.1 hok0.2.2 hok1.1 hok1.2.1 hok1.2.2 hok2.1 hok2.2
  refine (dioramalaw16_SoundCuts.calls k x0.1 _ _ x0.2 x1.1 _ _ x1.2 x2.1 x2.2 true W hr0_1 hc0_1 hr1_1 hc1_1 hp).mono fun e W' ⟨he, bel⟩ => ?_
  subst he
  exact ⟨_, rfl, _, _, _, [], _, [], hW', trodAll_mk1 (shut_bool Try.underlying4 _), (trodAll_cons_mk (Below.trod laidOut (by kernel_rfl) (of_decide_eq_true (by kernel_rfl)) k0 bel lt0) (trodAll_cons_mk (Below.trod laidOut (by kernel_rfl) (of_decide_eq_true (by kernel_rfl)) k1 bel lt1) (trodAll_cons_mk (Below.trod laidOut (by kernel_rfl) (of_decide_eq_true (by kernel_rfl)) k2 bel lt2) trodAll_mk0))), rfl, bel.frame _, fun h => by cases h⟩
theorem over : Rows.soundCutsRow.holds Try.pinned (OpenSpec.ofChange Rows.soundCutsSpec) :=
  OpenClaim.holds_of_wide 9 Try.f9 rfl rfl rfl rfl rfl rfl rfl ⟨rfl, rfl, rfl, rfl, rfl⟩ rfl rfl rfl rfl rfl (by kernel_rfl) Try.func9 (by kernel_rfl)
    (of_decide_eq_true (by kernel_rfl)) (by unfold Func.isWrapper; first | (rw [if_pos (by decide +kernel)]; kernel_rfl) | (rw [if_neg (by decide +kernel)]; exact ⟨rfl, rfl⟩))
    (fun os started H enc _ => lifted os started H enc)
theorem proved : Rows.SoundCutsSaid := over
end Go.Proofs.Ytdiemkeflmflaaa.soundCuts
namespace Go.Proofs.Ytdiemkeflmflaaa
/-- The row, under a short name, for the claim. -/
theorem soundCuts_holds : Rows.SoundCutsSaid := soundCuts.proved
end Go.Proofs.Ytdiemkeflmflaaa
