/- Part of a proof: functions of the program as Lean functions, and that the machine's calls come to them. Made by a program of this session (wip/mp). -/
import Derived.Test.YtdiemkeflmflaaaQSoundx0
namespace Go.Proofs.Ytdiemkeflmflaaa.QSound
open Go.RowKit Go.Proofs.YtdiemkeflmflaaaV Go.Proofs.YtdiemkeflmflaaaW.PrintWords Go.Proofs.YtdiemkeflmflaaaW.PrintLast Go.Proofs.YtdiemkeflmflaaaW.PrintMore
attribute [local go_sem] max2_int min2_int max_two min_two max_three min_three max_four min_four   -- for this text's walks alone
set_option linter.unusedVariables false
set_option linter.unusedSimpArgs false

/-! ### sound_within: function 61 -/
def sound_within.f (a0 : Int) (a1 : Int) (a2 : Int) : Option (Bool) := if a0 ≥ a1 then (some (decide (a0 ≤ a2))) else (some false)
set_option maxHeartbeats 8000000 in
set_option maxRecDepth 100000 in
theorem sound_within.calls (a0 : Int) (a1 : Int) (a2 : Int) (r : Bool) (w : World) (h : sound_within.f a0 a1 a2 = some r) :
    Calls Try.prog 61 #[.int .i64 a0, .int .i64 a1, .int .i64 a2] w fun e w' => e = .returned (.bool r) ∧ Drawn0 w w' := by
  have H : (if a0 ≥ a1 then (some (decide (a0 ≤ a2))) else (some false)) = some r := h
  clear h
  by_cases c4 : a0 ≥ a1
  · rw [if_pos c4] at H
    have c4b0 : decide (a1 ≤ a0) = true := decide_eq_true c4
    clear c4
    obtain rfl := Option.some.inj H
    go_enter Try.func61, Try.ntmps61
    go_wp2
    go_ret
    exact ⟨by first | rfl | (simp; done) | (simp [*]; done), by repeat (first | exact Drawn0.refl _ | apply Drawn0.step)⟩
  · rw [if_neg c4] at H
    have c4b0 : decide (a1 ≤ a0) = false := decide_eq_false c4
    clear c4
    obtain rfl := Option.some.inj H
    go_enter Try.func61, Try.ntmps61
    go_wp2
    go_ret
    exact ⟨by first | rfl | (simp; done) | (simp [*]; done), by repeat (first | exact Drawn0.refl _ | apply Drawn0.step)⟩

-- NOT PRINTED: function 126 (slices_IndexFunc_int_int_126)

-- NOT PRINTED: function 83 (slices_ContainsFunc_int_int_83)

-- NOT PRINTED: function 118 (sound_beyond_1)

/-! ### sound_beyond: function 62 -/
def out (most v : Int) : Bool := !decide (-most ≤ v) || !decide (v ≤ most)
theorem within_f (v a b : Int) : sound_within.f v a b = some (decide (a ≤ v) && decide (v ≤ b)) := by
  unfold sound_within.f
  by_cases h : v ≥ a
  · rw [if_pos h, decide_eq_true h]; simp
  · rw [if_neg h, decide_eq_false h]; simp
theorem beyond1_calls {w : World} {b : Nat} {most v : Int} (hc : w.cell? ⟨b, 0, none⟩ = some (.int .i64 most)) (hm : 0 ≤ most) (hm1 : most ≤ 9223372036854775807) :
    Calls Try.prog 118 #[.int .i64 v, .pointer (some ⟨b, 0, none⟩)] w fun e w' => e = .returned (.bool (out most v)) ∧ ∃ m, w' = w.drewN m := by
  have e1 : wrap64 (-most) = -most := by unfold wrap64; omega
  have e2 : IntKind.i64.wrap (-most) = -most := by rw [IntKind.wrap_i64]; omega
  go_enter Try.func118, Try.ntmps118
  go_wp2_with fail
  refine (sound_within.calls v (-most) most _ _ (within_f _ _ _)).mono ?_
  rintro e w2 ⟨rfl, ⟨n2, rfl⟩⟩
  go_wp2_with fail
  go_ret
  exact ⟨rfl, n2, rfl⟩
theorem index_calls {w : World} {b : Nat} {most : Int} (hc : w.cell? ⟨b, 0, none⟩ = some (.int .i64 most)) (hm : 0 ≤ most) (hm1 : most ≤ 9223372036854775807) (A0 : Option Addr) (c0 : Nat) (l0 : List Int) (hr0 : Kd.C (Kd.int .i64) w A0 l0.length l0) :
    Calls Try.prog 126 #[.slice A0 l0.length c0, .func (.func 118) #[] #[.pointer (some ⟨b, 0, none⟩)]] w fun e w' => (∃ r : Int, e = .returned (.int .i64 r) ∧ decide (0 ≤ r) = l0.any (out most)) ∧ ∃ m, w' = w.drewN m := by
  have HR := Aside0.mk hr0
  have HM := Aside0.mk hm
  have HM1 := Aside0.mk hm1
  have HL := Aside0.mk (show l0.length ≤ 9223372036854775807 from hr0.2.1)
  clear hr0 hm hm1
  go_enter Try.func126, Try.ntmps126
  go_wp2_with fail
  go_loopg [8] (l0.length + 1) (fun kq v8 w' => ∃ (i n : Nat), v8 = .int .i64 (i : Int) ∧ Aside0 (kq = l0.length - i + 1) ∧ Aside0 (i ≤ l0.length ∧ (l0.take i).any (out most) = false) ∧ Aside0 (w' = w.drewN n))
  case atStart => exact ⟨0, 0, rfl, ⟨rfl⟩, ⟨⟨Nat.zero_le _, rfl⟩⟩, ⟨rfl⟩⟩
  case round =>
    obtain ⟨i, n, rfl, HQ, HI, HW⟩ := hrel
    have hw := HW.out
    subst hw
    clear HW
    by_cases hi : i < l0.length
    · have e8 : wrap64 ((i : Int) + 1) = ((i + 1 : Nat) : Int) := by have := HL.out; unfold wrap64; omega
      obtain ⟨ad, e0, x0⟩ := Kd.at_int (Kd.C_drewN HR.out n) (i : Int) (by omega) (by omega)
      cases e0
      rw [Int.toNat_natCast] at x0
      have hi1 : decide ((i : Int) < (l0.length : Int)) = true := decide_eq_true (by omega)
      have hi2 : decide (i < l0.length) = true := decide_eq_true hi
      have HI1 := Aside0.mk hi
      have htk : (l0.take (i + 1)).any (out most) = out most (rd l0 (i : Int)) := by
        have h1 := HI.out.2
        rw [List.take_add_one, List.any_append, h1]
        simp [rd, List.getD_eq_getElem?_getD, List.getElem?_eq_getElem hi]
      have HTK := Aside0.mk htk
      clear htk
      go_wp2_with fail
      refine (beyond1_calls (w := w.drewN n) hc HM.out HM1.out).mono ?_
      rintro e w2 ⟨rfl, ⟨n2, rfl⟩⟩
      cases hb : out most (rd l0 (i : Int)) with
      | true =>
        go_wp2_with fail
        go_ret
        refine ⟨⟨(i : Int), rfl, ?_⟩, n + n2, rfl⟩
        rw [decide_eq_true (Int.natCast_nonneg i)]
        refine (List.any_eq_true.mpr ⟨rd l0 (i : Int), ?_, hb⟩).symm
        have h9 := HI1.out
        simp [rd, List.getD_eq_getElem?_getD, List.getElem?_eq_getElem h9]
      | false =>
        go_wp2_with fail
        go_roundg (l0.length - (i + 1) + 1)
        case measure => have := HQ.out; have := HI1.out; omega
        case rel => exact ⟨i + 1, n + n2, by rw [e8], ⟨rfl⟩, ⟨⟨HI1.out, by rw [HTK.out, hb]⟩⟩, ⟨rfl⟩⟩
    · have hi1 : decide ((i : Int) < (l0.length : Int)) = false := decide_eq_false (by omega)
      have hi2 : decide (i < l0.length) = false := decide_eq_false hi
      have hz : l0.any (out most) = false := by have h9 := HI.out.2; rwa [List.take_of_length_le (by omega)] at h9
      have HZ := Aside0.mk hz
      clear hi hz
      go_wp2_with fail
      go_ret
      exact ⟨⟨-1, rfl, by rw [HZ.out]; rfl⟩, n, rfl⟩
theorem contains_calls {w : World} {b : Nat} {most : Int} (hc : w.cell? ⟨b, 0, none⟩ = some (.int .i64 most)) (hm : 0 ≤ most) (hm1 : most ≤ 9223372036854775807) (A0 : Option Addr) (c0 : Nat) (l0 : List Int) (hr0 : Kd.C (Kd.int .i64) w A0 l0.length l0) :
    Calls Try.prog 83 #[.slice A0 l0.length c0, .func (.func 118) #[] #[.pointer (some ⟨b, 0, none⟩)]] w fun e w' => e = .returned (.bool (l0.any (out most))) ∧ ∃ m, w' = w.drewN m := by
  have HR := Aside0.mk hr0
  go_enter Try.func83, Try.ntmps83
  go_wp2_with fail
  refine (index_calls hc hm hm1 A0 c0 l0 HR.out).mono ?_
  rintro e w2 ⟨⟨r, rfl, hr⟩, ⟨n2, rfl⟩⟩
  have HRR := Aside0.mk hr
  clear hr
  go_wp2_with fail
  go_ret
  exact ⟨by rw [← HRR.out]; rfl, n2, rfl⟩
theorem beyond_calls {w : World} {most : Int} (hm : 0 ≤ most) (hm1 : most ≤ 9223372036854775807) (A0 : Option Addr) (c0 : Nat) (l0 : List Int) (hr0 : Kd.C (Kd.int .i64) w A0 l0.length l0) :
    Calls Try.prog 62 #[.slice A0 l0.length c0, .int .i64 most] w fun e w' => e = .returned (.bool (l0.any (out most))) ∧ Below w.heap.size w w' := by
  have HB := Aside0.mk (below_alloc (Below.refl _ w) (.cells #[.int .i64 most] 3))
  have HR := Aside0.mk (Kd.C_below hr0 HB.out)
  have hb : (w.alloc (.cells #[.int .i64 most] 3)).cell? ⟨w.heap.size, 0, none⟩ = some (.int .i64 most) := (blk_cell (show (w.alloc (.cells #[.int .i64 most] 3)).heap[w.heap.size]? = some (.cells #[.int .i64 most] 3 (0, 0)) by simpa using heap_alloc_new w (.cells #[.int .i64 most] 3)) 0).trans rfl
  have HX := Aside0.mk hb
  clear hb hr0
  go_enter Try.func62, Try.ntmps62
  go_wp2_with fail
  refine (contains_calls HX.out hm hm1 A0 c0 l0 HR.out).mono ?_
  rintro e w2 ⟨rfl, ⟨n2, rfl⟩⟩
  go_wp2_with fail
  go_ret
  exact ⟨rfl, pw_below_drewN HB.out _⟩
def sound_beyond.f (l0 : List Int) (a1 : Int) : Option Bool := if 0 ≤ a1 then (if a1 ≤ 9223372036854775807 then some (l0.any (out a1)) else none) else none
theorem sound_beyond.calls (A0 : Option Addr) (c0 : Nat) (l0 : List Int) (a1 : Int) (r : Bool) (w : World) (hr0 : Kd.C (Kd.int .i64) w A0 l0.length l0) (hc0 : l0.length ≤ c0) (h : sound_beyond.f l0 a1 = some r) :
    Calls Try.prog 62 #[.slice A0 l0.length c0, .int .i64 a1] w fun e w' => e = .returned (.bool r) ∧ Below w.heap.size w w' := by
  unfold sound_beyond.f at h
  by_cases h0 : 0 ≤ a1
  · by_cases h1 : a1 ≤ 9223372036854775807
    · rw [if_pos h0, if_pos h1] at h
      obtain rfl := Option.some.inj h
      exact beyond_calls h0 h1 A0 c0 l0 hr0
    · rw [if_pos h0, if_neg h1] at h; cases h
  · rw [if_neg h0] at h; cases h

end Go.Proofs.Ytdiemkeflmflaaa.QSound
