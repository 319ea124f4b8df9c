/- the sum of two texts of one length, xored byte by byte, is the sum of the one xored with that of the other and with that of as many zeros (P1.8; at most 4,000 bytes). This text: the row of the statement, out of the pure theorem and the walk. -/
import Derived.Test.YtlhdfdedhdcmiaaRows
import Derived.Test.YtlhdfdedhdcmiaaQBitsx12
import Derived.Test.YtlhdfdedhdcmiaaPureBitsLinear
import Derived.Test.YtlhdfdedhdcmiaaVOpen
import Derived.WalkKit
import Derived.ProofKit
import Derived.OpenShut
import Derived.ShutString
import Derived.ChangeOld
import Derived.Below
import Derived.SizedLaws
import Derived.Carry
namespace Go.Proofs.Ytlhdfdedhdcmiaa.bitsLinear
open Go.ChangeShapes Go.WideShapes Go.ChangeAt Go.RowKit Go.Proofs.YtlhdfdedhdcmiaaW.PrintWords Go.Proofs.YtlhdfdedhdcmiaaV Go.Proofs.Ytlhdfdedhdcmiaa.QBits
open Go.ChangeMaps (open_string shut_string)
set_option linter.unusedVariables false
set_option linter.unusedSimpArgs false
theorem own : ownKnob Try.prog.godebug = none := by kernel_rfl
theorem laidOut : laidOutB Try.prog = true := by kernel_rfl
theorem opens0 : Opens Try.prog (Kd.slice 5 (Kd.int .u8)) 22 (fun x => x.length ≤ maxLen ∧ ∀ x0 ∈ x, (Lit.int .u8 x0).wf = true) := (Opens.slice Try.underlying22 (by kernel_rfl) (Opens.int Try.underlying5 (by kernel_rfl)))
theorem opens1 : Opens Try.prog (Kd.slice 5 (Kd.int .u8)) 22 (fun x => x.length ≤ maxLen ∧ ∀ x0 ∈ x, (Lit.int .u8 x0).wf = true) := (Opens.slice Try.underlying22 (by kernel_rfl) (Opens.int Try.underlying5 (by kernel_rfl)))
set_option maxRecDepth 100000 in
set_option maxHeartbeats 1000000 in
theorem lifted (os : Os) (started : os.Started) (H : Type) (enc : TypeId × Value → H) :
    ReturnsInHanded {} Try.checked os 4 .any (Rows.bitsLinearSpec.pre6 enc Try.prog Try.f4 Rows.bitsLinearRow.domain false) (Rows.bitsLinearSpec.post enc Try.prog Try.f4 false true false false) := by
  refine returnsInHanded_of_change_sized (C := Try.checked) own started (by kernel_rfl) Try.func4
    (ChangeSpec.witness6 (enc := enc) (C := Try.checked) false ⟨#[], #[.slice none 0 0, .slice none 0 0], []⟩ 8 (by kernel_rfl) (by kernel_rfl) (by kernel_rfl) (by kernel_rfl)) ?_
  intro W base args ds gs before hval0 hW hcnd hsz0 _
  have hval : ∀ (j : Nat) t v, Try.f4.params[j]? = some t → args[j]? = some v → Value.okWide Try.prog W .any base t v := hval0
  have hW' := hW
  obtain ⟨p, q, hA0, hV, rfl, hfz, hnd⟩ := hW
  have hA : DataW.TrodAll enc Try.prog W 0 (fun _ => true) true Try.f4.params.toList args.toList ds p := hA0
  rw [Try.params4] at hA hval
  obtain ⟨v0, vs0, d0, ds0, p0, q0, hargs, rfl, rfl, h0, r0⟩ := trodAll_cons hA
  obtain ⟨v1, vs1, d1, ds1, p1, q1, rfl, rfl, rfl, h1, r1⟩ := trodAll_cons r0
  obtain ⟨rfl, rfl, rfl⟩ := trodAll_nil r1
  obtain rfl : args = #[v0, v1] := by cases args; simp_all
  obtain ⟨rfl, rfl⟩ := trodVars_none hV
  obtain ⟨a0, len0, cap0, rfl⟩ := okWide_slice Try.underlying22 (hval 0 22 v0 rfl rfl)
  have k0 := h0
  have lt0 : ∀ x ∈ p0, x.block < W.heap.size := by obtain ⟨m, hm⟩ := k0; exact DataW.trod_lt m _ _ _ hm
  obtain ⟨l0, ⟨A0, c0, e0, hc0, hr0⟩, hm0, hw0⟩ := opens0.param h0
  obtain ⟨rfl, rfl, rfl⟩ : a0 = A0 ∧ len0 = l0.length ∧ cap0 = c0 := by simpa [Value.cells] using e0
  obtain ⟨a1, len1, cap1, rfl⟩ := okWide_slice Try.underlying22 (hval 1 22 v1 rfl rfl)
  have k1 := h1
  have lt1 : ∀ x ∈ p1, x.block < W.heap.size := by obtain ⟨m, hm⟩ := k1; exact DataW.trod_lt m _ _ _ hm
  obtain ⟨l1, ⟨A1, c1, e1, hc1, hr1⟩, hm1, hw1⟩ := opens1.param h1
  obtain ⟨rfl, rfl, rfl⟩ : a1 = A1 ∧ len1 = l1.length ∧ cap1 = c1 := by simpa [Value.cells] using e1
  clear hA0 hval0 hsz0
  obtain ⟨k, hp⟩ := Pure.BitsLinear l0 l1 hm0 hw0 hm1 hw1
  refine (dioramalaw01_BitsLinear.calls k _ _ l0 _ _ l1 true W hr0 hc0 hr1 hc1 hp).mono fun e W' ⟨he, bel⟩ => ?_
  subst he
  exact ⟨_, rfl, _, _, _, [], _, [], hW', trodAll_mk1 (shut_bool Try.underlying4 _), (trodAll_cons_mk (Below.trod laidOut (by kernel_rfl) (of_decide_eq_true (by kernel_rfl)) k0 bel lt0) (trodAll_cons_mk (Below.trod laidOut (by kernel_rfl) (of_decide_eq_true (by kernel_rfl)) k1 bel lt1) trodAll_mk0)), rfl, bel.frame _, fun h => by cases h⟩
theorem over : Rows.bitsLinearRow.holds Try.pinned (OpenSpec.ofChange Rows.bitsLinearSpec) :=
  OpenClaim.holds_of_wide 4 Try.f4 rfl rfl rfl rfl rfl rfl rfl ⟨rfl, rfl, rfl, rfl, rfl⟩ rfl rfl rfl rfl rfl (by kernel_rfl) Try.func4 (by kernel_rfl)
    (of_decide_eq_true (by kernel_rfl)) (by unfold Func.isWrapper; first | (rw [if_pos (by decide +kernel)]; kernel_rfl) | (rw [if_neg (by decide +kernel)]; exact ⟨rfl, rfl⟩))
    (fun os started H enc _ => lifted os started H enc)
theorem proved : Rows.BitsLinearSaid := over
end Go.Proofs.Ytlhdfdedhdcmiaa.bitsLinear
namespace Go.Proofs.Ytlhdfdedhdcmiaa
/-- The row, under a short name, for the claim. -/
theorem bitsLinear_holds : Rows.BitsLinearSaid := bitsLinear.proved
end Go.Proofs.Ytlhdfdedhdcmiaa
