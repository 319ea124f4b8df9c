/- A lemma file: table.Values, walked. No condition. -/
import Derived.Test.YtmbhafgnmdfjhaaHT
import Derived.Test.YtmbhafgnmdfjhaaQTabx4
import Derived.Test.YtmbhafgnmdfjhaaQTabx19
namespace Go.Proofs.Ytmbhafgnmdfjhaa.QTab
open Go.RowKit Go.Proofs.YtmbhafgnmdfjhaaW.PrintWords Go.Proofs.YtmbhafgnmdfjhaaW.PrintLast Go.Proofs.YtmbhafgnmdfjhaaW.PrintMore Go.Proofs.YtmbhafgnmdfjhaaV
set_option linter.unusedVariables false
set_option linter.unusedSimpArgs false
set_option maxRecDepth 100000 in
set_option maxHeartbeats 1000000 in
theorem index_run0 {w : World} (N : Nat) (hN : Enters Try.prog N)  (p : S83 → Bool) (A0 : Option Addr) (c0 : Nat) (l0 : List S83) (hr0 : Kd.C k83 w A0 l0.length l0)
    (H : ∀ (x : S83) (w1 : World), Below w.heap.size w w1 → Calls Try.prog N #[.agg #[.int .i64 x.f0, .int .i64 x.f1]] w1 fun e w' => e = .returned (.bool (p x)) ∧ Below w.heap.size w w') :
    Calls Try.prog 98 #[.slice A0 l0.length c0, .func (.func N) #[] #[]] w fun e w' => (∃ r : Int, e = .returned (.int .i64 r) ∧ decide (0 ≤ r) = l0.any p) ∧ Below w.heap.size w w' := by
  have hu83 := Try.underlying83
  have hu86 := Try.underlying83
  have HR := Aside0.mk hr0
  have HH := Aside0.mk H
  have HL := Aside0.mk (show l0.length ≤ 9223372036854775807 from hr0.2.1)
  have hN' := hN.h
  clear hr0 H hN
  go_enter Try.func98, Try.ntmps98
  go_wp2_with fail
  go_loopg [8] (l0.length + 1) (fun kq v8 w' => ∃ (i : Nat), v8 = .int .i64 (i : Int) ∧ Aside0 (kq = l0.length - i + 1) ∧ Aside0 (i ≤ l0.length ∧ (l0.take i).any p = false) ∧ Aside0 (Below w.heap.size w w'))
  case atStart => exact ⟨0, rfl, ⟨rfl⟩, ⟨⟨Nat.zero_le _, rfl⟩⟩, ⟨Below.refl _ _⟩⟩
  case round =>
    obtain ⟨i, rfl, HQ, HI, HW⟩ := hrel
    by_cases hi : i < l0.length
    · have e8 : wrap64 ((i : Int) + 1) = ((i + 1 : Nat) : Int) := by have := HL.out; unfold wrap64; omega
      obtain ⟨ad, e0, x0, x1⟩ := at_T83 (Kd.C_below HR.out HW.out) (i : Int) (by omega) (by omega)
      cases e0
      rw [Int.toNat_natCast] at x0 x1
      have hi1 : decide ((i : Int) < (l0.length : Int)) = true := decide_eq_true (by omega)
      have hi2 : decide (i < l0.length) = true := decide_eq_true hi
      have HI1 := Aside0.mk hi
      have HE : Aside0 (l0[i] = rd_T83 l0 (i : Int)) := ⟨rd_at83 hi⟩
      have HTK : Aside0 ((l0.take (i + 1)).any p = p (rd_T83 l0 (i : Int))) := ⟨any_tk hi HE.out HI.out.2⟩
      have HB : Aside0 (p (rd_T83 l0 (i : Int)) = true → l0.any p = true) := ⟨fun h => List.any_eq_true.mpr ⟨_, by rw [← HE.out]; exact List.getElem_mem _, h⟩⟩
      clear HE
      go_wp2_with fail
      refine (HH.out _ _ HW.out).mono ?_
      rintro e w2 ⟨rfl, hb⟩
      have HB2 := Aside0.mk hb
      clear hb
      cases hp : p (rd_T83 l0 (i : Int)) with
      | true =>
        have HBB := Aside0.mk (HB.out hp)
        go_wp2_with fail
        go_ret
        refine ⟨⟨(i : Int), rfl, ?_⟩, HB2.out⟩
        rw [decide_eq_true (Int.natCast_nonneg i), HBB.out]
      | false =>
        go_wp2_with fail
        go_roundg (l0.length - (i + 1) + 1)
        case measure => have := HQ.out; have := HI1.out; omega
        case rel => exact ⟨i + 1, by rw [e8], ⟨rfl⟩, ⟨⟨HI1.out, by rw [HTK.out, hp]⟩⟩, HB2⟩
    · have hi1 : decide ((i : Int) < (l0.length : Int)) = false := decide_eq_false (by omega)
      have hi2 : decide (i < l0.length) = false := decide_eq_false hi
      have hz : l0.any p = false := by have h9 := HI.out.2; rwa [List.take_of_length_le (by omega)] at h9
      have HZ := Aside0.mk hz
      clear hi hz
      go_wp2_with fail
      go_ret
      exact ⟨⟨-1, rfl, by rw [HZ.out]; rfl⟩, HW.out⟩
theorem contains_run0 {w : World} (N : Nat) (hN : Enters Try.prog N)  (p : S83 → Bool) (A0 : Option Addr) (c0 : Nat) (l0 : List S83) (hr0 : Kd.C k83 w A0 l0.length l0)
    (H : ∀ (x : S83) (w1 : World), Below w.heap.size w w1 → Calls Try.prog N #[.agg #[.int .i64 x.f0, .int .i64 x.f1]] w1 fun e w' => e = .returned (.bool (p x)) ∧ Below w.heap.size w w') :
    Calls Try.prog 67 #[.slice A0 l0.length c0, .func (.func N) #[] #[]] w fun e w' => e = .returned (.bool (l0.any p)) ∧ Below w.heap.size w w' := by
  have HR := Aside0.mk hr0
  have HH := Aside0.mk H
  have HN := Aside0.mk hN
  clear hr0 H hN
  go_enter Try.func67, Try.ntmps67
  go_wp2_with fail
  refine (index_run0 N HN.out  p A0 c0 l0 HR.out HH.out).mono ?_
  rintro e w2 ⟨⟨r, rfl, hr⟩, hb⟩
  have HRR := Aside0.mk hr
  have HB2 := Aside0.mk hb
  clear hr hb
  go_wp2_with fail
  go_ret
  exact ⟨by rw [← HRR.out]; rfl, HB2.out⟩
theorem entersV : Enters Try.prog 68 := ⟨fun _ _ => by kernel_rfl⟩
def lowB (x : S83) : Bool := decide (x.f0 < 1)
def table_Values.f (k : Nat) (l0 : List S83) : Option (List Int × Int) := if l0.any lowB = true then some ([], 1) else ((table_total.f k l0).bind fun T => (if T > 400 then some ([], 2) else ((table_values.f k l0).bind fun v => some (v, 0))))
set_option maxRecDepth 100000 in
set_option maxHeartbeats 1000000 in
theorem table_Values.calls (k : Nat) (A0 : Option Addr) (c0 : Nat) (l0 : List S83) (r1 : List Int) (r2 : Int) (w : World) (hr0 : Kd.C k83 w A0 l0.length l0) (hc0 : l0.length ≤ c0) (h : table_Values.f k l0 = some (r1, r2)) :
    Calls Try.prog 22 #[.slice A0 l0.length c0] w fun e w' => ∃ v0_ : Value, e = .returned (.tuple #[v0_, .int .i64 r2]) ∧ Kd.R (Kd.int .i64) 3 w' w.heap.size (fun _ => True) v0_ r1 ∧ Below w.heap.size w w' := by
  have HR := Aside0.mk hr0
  have HC := Aside0.mk hc0
  clear hr0 hc0
  unfold table_Values.f at h
  go_enter Try.func22, Try.ntmps22
  go_wp2_with fail
  refine (contains_run0 68 entersV lowB A0 c0 l0 HR.out (fun x w3 hb => (table_Values_1.calls x.f0 x.f1 _ w3 rfl).mono (fun e w' h => ⟨h.1, below_step hb h.2⟩))).mono ?_
  rintro e w2 ⟨rfl, hb⟩
  have B2 := Aside0.mk hb
  clear hb
  obtain ⟨b, hbb⟩ : ∃ z, l0.any lowB = z := ⟨_, rfl⟩
  rw [hbb] at h ⊢
  clear hbb
  cases b with
  | true =>
    rw [if_pos rfl] at h
    injection h with h
    injection h with h3 h4
    subst h3 h4
    go_wp2_with fail
    go_ret2
    exact ⟨_, rfl, Kd.R_nil _ _ _ _ _, B2.out⟩
  | false =>
  rw [if_neg (by simp)] at h
  obtain ⟨T, hT, h⟩ := Option.bind_eq_some_iff.mp h
  have HT := Aside0.mk hT
  clear hT
  by_cases h4 : T > 400
  · rw [if_pos h4] at h
    injection h with h
    injection h with h3 h5
    subst h3 h5
    have h4a : decide (400 < T) = true := decide_eq_true h4
    clear h4
    go_wp2_with fail
    refine (table_total.calls k A0 c0 l0 T _ (Kd.C_below HR.out B2.out) HC.out HT.out).mono ?_
    rintro e w3 ⟨rfl, hb0⟩
    have B3 := Aside0.mk (below_step B2.out hb0)
    clear hb0 B2
    go_wp2_with fail
    go_ret2
    exact ⟨_, rfl, Kd.R_nil _ _ _ _ _, B3.out⟩
  · rw [if_neg h4] at h
    obtain ⟨v, hv, h⟩ := Option.bind_eq_some_iff.mp h
    injection h with h
    injection h with h3 h5
    subst h3 h5
    have HV := Aside0.mk hv
    have h4a : decide (400 < T) = false := decide_eq_false h4
    clear h4 hv
    go_wp2_with fail
    refine (table_total.calls k A0 c0 l0 T _ (Kd.C_below HR.out B2.out) HC.out HT.out).mono ?_
    rintro e w3 ⟨rfl, hb0⟩
    have B3 := Aside0.mk (below_step B2.out hb0)
    clear hb0 B2
    go_wp2_with fail
    refine (table_values.calls k A0 c0 l0 v _ (Kd.C_below HR.out B3.out) HC.out HV.out).mono ?_
    rintro e w4 ⟨vv, rfl, sv, hb⟩
    have B4 := Aside0.mk (below_step B3.out hb)
    have SV := Aside0.mk (Kd.R_lower sv B3.out.size)
    clear hb B3 sv
    go_wp2_with fail
    go_ret2
    exact ⟨_, rfl, SV.out, B4.out⟩
end Go.Proofs.Ytmbhafgnmdfjhaa.QTab
