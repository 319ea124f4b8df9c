/- Part of a proof: functions of the program as Lean functions, and that the machine's calls come to them. Made by a program of this session (wip/mp). -/
import Derived.Test.YtdiemkeflmflaaaQSoundx0
import Derived.Test.YtdiemkeflmflaaaQSoundx6
import Derived.Test.YtdiemkeflmflaaaQSoundx19
namespace Go.Proofs.Ytdiemkeflmflaaa.QSound
open Go.RowKit Go.Proofs.YtdiemkeflmflaaaV Go.Proofs.YtdiemkeflmflaaaW.PrintWords Go.Proofs.YtdiemkeflmflaaaW.PrintLast Go.Proofs.YtdiemkeflmflaaaW.PrintMore
attribute [local go_sem] max2_int min2_int max_two min_two max_three min_three max_four min_four   -- for this text's walks alone
set_option linter.unusedVariables false
set_option linter.unusedSimpArgs false

/-! ### dioramaref16_Rice: function 28 -/
def dioramaref16_Rice.l0 : Nat → List Int → Int → Option (Int × Int × Int)
  | 0, _, _ => none
  | k + 1, x0, x5 => if x5 < (x0.length : Int) then (if 0 ≤ x5 then ((dioramaref16_in.f (rd x0 x5) (-2147483648) 2147483648).bind fun t489 => (if t489 = true then (dioramaref16_Rice.l0 k x0 (wrap64 (x5 + 1))) else (some (0, 0, 1)))) else (none)) else ((dioramaref16_best.f k x0).bind fun bt490 => (some (bt490.1, bt490.2, 0)))
def dioramaref16_Rice.f (k : Nat) (l0 : List Int) : Option (Int × Int × Int) := dioramaref16_Rice.l0 k l0 0
theorem dioramaref16_Rice.mono_l : ∀ k, (∀ y0 y1, LeO (dioramaref16_Rice.l0 k y0 y1) (dioramaref16_Rice.l0 (k + 1) y0 y1))
  | 0 => fun _ _ r h => by simp [dioramaref16_Rice.l0] at h
  | k + 1 => by
    have ih0 := dioramaref16_Rice.mono_l k
    · intro y0 y1
      unfold dioramaref16_Rice.l0
      repeat' first
      | (with_reducible exact ih0 _ _)
      | (with_reducible exact dioramaref16_best.mono _ _)
      | (with_reducible exact LeO.refl _)
      | (with_reducible exact LeO.none _)
      | (with_reducible refine LeO.ite ?_ ?_)
      | (with_reducible refine LeO.bind ?_ (fun _ => ?_))
      | exact ih0 _ _
      | exact dioramaref16_best.mono _ _
      | exact LeO.none _
      | refine LeO.ite ?_ ?_
      | refine LeO.bind ?_ (fun _ => ?_)
theorem dioramaref16_Rice.mono : ∀ a0 k, LeO (dioramaref16_Rice.f k a0) (dioramaref16_Rice.f (k + 1) a0) := by
  intro a0 k
  have ih0 := dioramaref16_Rice.mono_l k
  unfold dioramaref16_Rice.f
  repeat' first
      | (with_reducible exact ih0 _ _)
      | (with_reducible exact dioramaref16_best.mono _ _)
      | (with_reducible exact LeO.refl _)
      | (with_reducible exact LeO.none _)
      | (with_reducible refine LeO.ite ?_ ?_)
      | (with_reducible refine LeO.bind ?_ (fun _ => ?_))
      | exact ih0 _ _
      | exact dioramaref16_best.mono _ _
      | exact LeO.none _
      | refine LeO.ite ?_ ?_
      | refine LeO.bind ?_ (fun _ => ?_)
set_option maxHeartbeats 8000000 in
set_option maxRecDepth 100000 in
theorem dioramaref16_Rice.calls (k : Nat) (A0 : Option Addr) (c0 : Nat) (l0 : List Int) (r1 : Int) (r2 : Int) (r3 : Int) (w : World) (hr0 : Kd.C (Kd.int .i64) w A0 l0.length l0) (hc0 : l0.length ≤ c0) (h : dioramaref16_Rice.f k l0 = some (r1, r2, r3)) :
    Calls Try.prog 28 #[.slice A0 l0.length c0] w fun e w' => e = .returned (.tuple #[.int .i64 r1, .int .i64 r2, .int .i64 r3]) ∧ Drawn0 w w' := by
  have HR0 := Aside0.mk hr0
  have HC0 := Aside0.mk hc0
  clear hr0 hc0
  have H : (dioramaref16_Rice.l0 k l0 0) = some (r1, r2, r3) := h
  clear h
  have H' := Aside0.mk H
  clear H
  go_enter Try.func28, Try.ntmps28
  go_wp2
  go_loopg [5] k (fun kq v5 w' => ∃ (x5_1 : Int), v5 = .int .i64 x5_1 ∧ Aside0 (dioramaref16_Rice.l0 kq l0 x5_1 = some (r1, r2, r3)) ∧ Aside0 (kq ≤ k) ∧ Drawn0 w w')
  case atStart => exact ⟨(0), (by first | rfl | (simp; done) | (simp [*]; done)), H', ⟨Nat.le_refl _⟩, by repeat (first | exact Drawn0.refl _ | apply Drawn0.step)⟩
  case round =>
    clear H'
    obtain ⟨x5_1, rfl, HA, HK1, ⟨m1, rfl⟩⟩ := hrel
    cases gk with
    | zero => exact absurd HA.out (by simp [dioramaref16_Rice.l0])
    | succ k1 =>
      have H := HA.out
      clear HA
      simp only [dioramaref16_Rice.l0] at H
      by_cases c2 : x5_1 < (l0.length : Int)
      · rw [if_pos c2] at H
        have c2b0 : decide (x5_1 < (l0.length : Int)) = true := decide_eq_true c2
        clear c2
        by_cases c3 : 0 ≤ x5_1
        · rw [if_pos c3] at H
          have c3b0 : decide (0 ≤ x5_1) = true := decide_eq_true c3
          clear c3
          replace H := Option.bind_eq_some_iff.mp H
          obtain ⟨t489, A40, H⟩ := H
          replace H : (if t489 = true then (dioramaref16_Rice.l0 k1 l0 (wrap64 (x5_1 + 1))) else (some (0, 0, 1))) = some (r1, r2, r3) := H
          have A4 := Aside0.mk A40
          clear A40
          by_cases c5 : t489 = true
          · subst c5
            have H1 : (dioramaref16_Rice.l0 k1 l0 (wrap64 (x5_1 + 1))) = some (r1, r2, r3) := by rw [if_pos rfl] at H; exact H
            clear H
            have H := H1
            clear H1
            have H' := Aside0.mk H
            clear H
            have p488 : 0 ≤ (x5_1 : Int) := of_decide_eq_true (by first | (with_reducible assumption) | assumption)
            have q488 : x5_1 < (l0.length : Int) := of_decide_eq_true (by first | (with_reducible assumption) | assumption)
            obtain ⟨ad488, e488, hx488_0⟩ := Kd.at_int HR0.out x5_1 p488 q488
            cases e488
            replace p488 := eq_true p488
            replace q488 := eq_true q488
            go_wp2_with (first | ((with_reducible refine gate_callee (f := 68) rfl ?_); refine goesL_ (some 18) rfl rfl Try.func68 (by kernel_rfl) rfl #[.int .i64 (rd l0 x5_1), .int .i64 (-2147483648), .int .i64 2147483648] rfl (by (try simp only [List.map_toArray, List.map_cons, List.map_nil]); first | done | rfl | (simp only [List.length_drop, List.length_take]; rfl)) ?_; (with_reducible refine (dioramaref16_in.calls (rd l0 x5_1) (-2147483648) 2147483648 true _ A4.out).mono ?_); rintro e w' ⟨rfl, ⟨nd, rfl⟩⟩; refine ⟨_, rfl, ?_⟩))
            go_roundg k1
            case measure => have := HK1.out; omega
            case rel => exact ⟨(wrap64 (x5_1 + 1)), (by first | rfl | (simp; done) | (simp [*]; done)), H', ⟨by have := HK1.out; omega⟩, by repeat (first | exact Drawn0.refl _ | apply Drawn0.step)⟩
          · replace c5 := Bool.eq_false_iff.mpr c5
            subst c5
            have H1 : (some (0, 0, 1)) = some (r1, r2, r3) := by rw [if_neg (show ¬ (false = true) by decide)] at H; exact H
            clear H
            have H := H1
            clear H1
            simp only [Option.some.injEq, Prod.mk.injEq] at H
            obtain ⟨rfl, rfl, rfl⟩ := H
            have p488 : 0 ≤ (x5_1 : Int) := of_decide_eq_true (by first | (with_reducible assumption) | assumption)
            have q488 : x5_1 < (l0.length : Int) := of_decide_eq_true (by first | (with_reducible assumption) | assumption)
            obtain ⟨ad488, e488, hx488_0⟩ := Kd.at_int HR0.out x5_1 p488 q488
            cases e488
            replace p488 := eq_true p488
            replace q488 := eq_true q488
            go_wp2_with (first | ((with_reducible refine gate_callee (f := 68) rfl ?_); refine goesL_ (some 18) rfl rfl Try.func68 (by kernel_rfl) rfl #[.int .i64 (rd l0 x5_1), .int .i64 (-2147483648), .int .i64 2147483648] rfl (by (try simp only [List.map_toArray, List.map_cons, List.map_nil]); first | done | rfl | (simp only [List.length_drop, List.length_take]; rfl)) ?_; (with_reducible refine (dioramaref16_in.calls (rd l0 x5_1) (-2147483648) 2147483648 false _ A4.out).mono ?_); rintro e w' ⟨rfl, ⟨nd, rfl⟩⟩; refine ⟨_, rfl, ?_⟩))
            go_ret3
            exact ⟨by first | rfl | (simp; done) | (simp [*]; done), by repeat (first | exact Drawn0.refl _ | apply Drawn0.step)⟩
        · rw [if_neg c3] at H
          exact absurd H (by simp)
      · rw [if_neg c2] at H
        have c2b0 : decide (x5_1 < (l0.length : Int)) = false := decide_eq_false c2
        clear c2
        replace H := Option.bind_eq_some_iff.mp H
        obtain ⟨⟨t490, t491⟩, A60, H⟩ := H
        replace H : (some (t490, t491, 0)) = some (r1, r2, r3) := H
        have A6 := Aside0.mk A60
        clear A60
        simp only [Option.some.injEq, Prod.mk.injEq] at H
        obtain ⟨rfl, rfl, rfl⟩ := H
        go_wp2_with (first | ((with_reducible refine gate_callee (f := 75) rfl ?_); refine goesL_ (some 22) rfl rfl Try.func75 (by kernel_rfl) rfl #[.slice A0 l0.length c0] rfl (by (try simp only [List.map_toArray, List.map_cons, List.map_nil]); first | done | rfl | (simp only [List.length_drop, List.length_take]; rfl)) ?_; (with_reducible refine (dioramaref16_best.calls k1 _ _ l0 t490 t491 _ ?side1 ?side2 A6.out).mono ?_); (case side1 => repeat (first | exact HR0.out | (with_reducible refine Kd.C_alloc ?_ _) | (with_reducible refine Kd.C_drewN ?_ _) | (with_reducible refine Kd.C_drew ?_))); (case side2 => exact HC0.out); rintro e w' ⟨rfl, ⟨nd, rfl⟩⟩; refine ⟨_, rfl, ?_⟩))
        go_ret3
        exact ⟨by first | rfl | (simp; done) | (simp [*]; done), by repeat (first | exact Drawn0.refl _ | apply Drawn0.step)⟩

end Go.Proofs.Ytdiemkeflmflaaa.QSound
