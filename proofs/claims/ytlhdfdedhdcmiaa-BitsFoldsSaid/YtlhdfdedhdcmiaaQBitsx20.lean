/- Part of a proof: functions of the program as Lean functions, and that the machine's calls come to them. Made by a program of this session (wip/mp). -/
import Derived.Test.YtlhdfdedhdcmiaaQBitsx0
import Derived.Test.YtlhdfdedhdcmiaaQBitsx10
import Derived.Test.YtlhdfdedhdcmiaaQBitsx16
import Derived.Test.YtlhdfdedhdcmiaaQBitsx17
import Derived.Test.YtlhdfdedhdcmiaaQBitsx18
import Derived.Test.YtlhdfdedhdcmiaaQBitsx19
namespace Go.Proofs.Ytlhdfdedhdcmiaa.QBits
open Go.RowKit Go.Proofs.YtlhdfdedhdcmiaaW.PrintWords Go.Proofs.YtlhdfdedhdcmiaaW.PrintLast Go.Proofs.YtlhdfdedhdcmiaaW.PrintMore
attribute [local go_sem] max2_int min2_int max_two min_two max_three min_three max_four min_four   -- for this text's walks alone
set_option linter.unusedVariables false
set_option linter.unusedSimpArgs false

/-! ### dioramalaw01_BitsFolds: function 6 -/
mutual
def dioramalaw01_BitsFolds.j0 : Nat → Int → Int → Bool → Option (Bool)
  | 0, _, _, _ => none
  | k + 1, x0, x3, x16 => if x16 = true then (some false) else (if x0 ≥ (-2305843009213693952) then (if x0 ≤ 2305843009213693952 then ((bits_Unfold.f k x3).bind fun t164 => (dioramalaw01_BitsFolds.j1 k (t164 != x0))) else (dioramalaw01_BitsFolds.j1 k false)) else (dioramalaw01_BitsFolds.j1 k false))
def dioramalaw01_BitsFolds.j1 : Nat → Bool → Option (Bool)
  | 0, _ => none
  | k + 1, x28 => if x28 = true then (some false) else ((bits_Fold.f k (-3)).bind fun t165 => (if t165 = 5 then ((dioramalaw01_awake.f k).bind fun t166 => (some t166)) else (some false)))
end
def dioramalaw01_BitsFolds.f (k : Nat) (a0 : Int) : Option (Bool) := (bits_Fold.f k a0).bind fun t160 => ((dioramaref01_Fold.f k a0).bind fun t161 => (if t160 = t161 then ((bits_Unfold.f k a0).bind fun t162 => ((dioramaref01_Unfold.f k a0).bind fun t163 => (dioramalaw01_BitsFolds.j0 k a0 t160 (t162 != t163)))) else (dioramalaw01_BitsFolds.j0 k a0 t160 true)))
theorem dioramalaw01_BitsFolds.mono_l : ∀ k, (∀ y0 y1 y2, LeO (dioramalaw01_BitsFolds.j0 k y0 y1 y2) (dioramalaw01_BitsFolds.j0 (k + 1) y0 y1 y2)) ∧ (∀ y0, LeO (dioramalaw01_BitsFolds.j1 k y0) (dioramalaw01_BitsFolds.j1 (k + 1) y0))
  | 0 => ⟨fun _ _ _ r h => by simp [dioramalaw01_BitsFolds.j0] at h, fun _ r h => by simp [dioramalaw01_BitsFolds.j1] at h⟩
  | k + 1 => by
    obtain ⟨ih0, ih1⟩ := dioramalaw01_BitsFolds.mono_l k
    refine ⟨?_, ?_⟩
    · intro y0 y1 y2
      unfold dioramalaw01_BitsFolds.j0
      repeat' first
      | (with_reducible exact ih0 _ _ _)
      | (with_reducible exact ih1 _)
      | (with_reducible exact bits_Fold.mono _ _)
      | (with_reducible exact bits_Unfold.mono _ _)
      | (with_reducible exact dioramalaw01_awake.mono _)
      | (with_reducible exact dioramaref01_Fold.mono _ _)
      | (with_reducible exact dioramaref01_Unfold.mono _ _)
      | (with_reducible exact LeO.refl _)
      | (with_reducible exact LeO.none _)
      | (with_reducible refine LeO.ite ?_ ?_)
      | (with_reducible refine LeO.bind ?_ (fun _ => ?_))
      | exact ih0 _ _ _
      | exact ih1 _
      | exact bits_Fold.mono _ _
      | exact bits_Unfold.mono _ _
      | exact dioramalaw01_awake.mono _
      | exact dioramaref01_Fold.mono _ _
      | exact dioramaref01_Unfold.mono _ _
      | exact LeO.none _
      | refine LeO.ite ?_ ?_
      | refine LeO.bind ?_ (fun _ => ?_)
    · intro y0
      unfold dioramalaw01_BitsFolds.j1
      repeat' first
      | (with_reducible exact ih0 _ _ _)
      | (with_reducible exact ih1 _)
      | (with_reducible exact bits_Fold.mono _ _)
      | (with_reducible exact bits_Unfold.mono _ _)
      | (with_reducible exact dioramalaw01_awake.mono _)
      | (with_reducible exact dioramaref01_Fold.mono _ _)
      | (with_reducible exact dioramaref01_Unfold.mono _ _)
      | (with_reducible exact LeO.refl _)
      | (with_reducible exact LeO.none _)
      | (with_reducible refine LeO.ite ?_ ?_)
      | (with_reducible refine LeO.bind ?_ (fun _ => ?_))
      | exact ih0 _ _ _
      | exact ih1 _
      | exact bits_Fold.mono _ _
      | exact bits_Unfold.mono _ _
      | exact dioramalaw01_awake.mono _
      | exact dioramaref01_Fold.mono _ _
      | exact dioramaref01_Unfold.mono _ _
      | exact LeO.none _
      | refine LeO.ite ?_ ?_
      | refine LeO.bind ?_ (fun _ => ?_)
theorem dioramalaw01_BitsFolds.mono : ∀ a0 k, LeO (dioramalaw01_BitsFolds.f k a0) (dioramalaw01_BitsFolds.f (k + 1) a0) := by
  intro a0 k
  obtain ⟨ih0, ih1⟩ := dioramalaw01_BitsFolds.mono_l k
  unfold dioramalaw01_BitsFolds.f
  repeat' first
      | (with_reducible exact ih0 _ _ _)
      | (with_reducible exact ih1 _)
      | (with_reducible exact bits_Fold.mono _ _)
      | (with_reducible exact bits_Unfold.mono _ _)
      | (with_reducible exact dioramalaw01_awake.mono _)
      | (with_reducible exact dioramaref01_Fold.mono _ _)
      | (with_reducible exact dioramaref01_Unfold.mono _ _)
      | (with_reducible exact LeO.refl _)
      | (with_reducible exact LeO.none _)
      | (with_reducible refine LeO.ite ?_ ?_)
      | (with_reducible refine LeO.bind ?_ (fun _ => ?_))
      | exact ih0 _ _ _
      | exact ih1 _
      | exact bits_Fold.mono _ _
      | exact bits_Unfold.mono _ _
      | exact dioramalaw01_awake.mono _
      | exact dioramaref01_Fold.mono _ _
      | exact dioramaref01_Unfold.mono _ _
      | exact LeO.none _
      | refine LeO.ite ?_ ?_
      | refine LeO.bind ?_ (fun _ => ?_)
set_option maxHeartbeats 8000000 in
set_option maxRecDepth 100000 in
theorem dioramalaw01_BitsFolds.calls (k : Nat) (a0 : Int) (r : Bool) (w : World) (h : dioramalaw01_BitsFolds.f k a0 = some r) :
    Calls Try.prog 6 #[.int .i64 a0] w fun e w' => e = .returned (.bool r) ∧ Below w.heap.size w w' := by
  have HB := Aside0.mk (Below.refl w.heap.size w)
  have H : ((bits_Fold.f k a0).bind fun t160 => ((dioramaref01_Fold.f k a0).bind fun t161 => (if t160 = t161 then ((bits_Unfold.f k a0).bind fun t162 => ((dioramaref01_Unfold.f k a0).bind fun t163 => (dioramalaw01_BitsFolds.j0 k a0 t160 (t162 != t163)))) else (dioramalaw01_BitsFolds.j0 k a0 t160 true)))) = some r := h
  clear h
  replace H := Option.bind_eq_some_iff.mp H
  obtain ⟨t160, A20, H⟩ := H
  replace H : ((dioramaref01_Fold.f k a0).bind fun t161 => (if t160 = t161 then ((bits_Unfold.f k a0).bind fun t162 => ((dioramaref01_Unfold.f k a0).bind fun t163 => (dioramalaw01_BitsFolds.j0 k a0 t160 (t162 != t163)))) else (dioramalaw01_BitsFolds.j0 k a0 t160 true))) = some r := H
  have A2 := Aside0.mk A20
  clear A20
  have HC3 := Aside0.mk H
  clear H
  go_enter Try.func6, Try.ntmps6
  go_upto_region 2 with (first | ((with_reducible refine gate_callee (f := 18) rfl ?_); refine goesL_ (some 5) rfl rfl Try.func18 (by kernel_rfl) rfl #[.int .i64 a0] rfl (by (try simp only [List.map_toArray, List.map_cons, List.map_nil]); first | done | rfl | (simp only [List.length_drop, List.length_take]; rfl)) ?_; (with_reducible refine (bits_Fold.calls k a0 t160 _ A2.out).mono ?_); rintro e w' ⟨rfl, ⟨nd, rfl⟩⟩; refine ⟨_, rfl, ?_⟩))
  (try simp only [Act.put, List.setIfInBounds_toArray, List.set_cons_zero, List.set_cons_succ])
  go_cut [16] (fun v16 wc => ∃ (kq : Nat) (x16_2 : Bool), v16 = .bool x16_2 ∧ Aside0 (dioramalaw01_BitsFolds.j0 kq a0 t160 x16_2 = some r) ∧ Aside0 (kq ≤ k) ∧ Aside0 (Below w.heap.size w wc))
  case first =>
    have H := HC3.out
    clear HC3
    replace H := Option.bind_eq_some_iff.mp H
    obtain ⟨t161, A40, H⟩ := H
    replace H : (if t160 = t161 then ((bits_Unfold.f k a0).bind fun t162 => ((dioramaref01_Unfold.f k a0).bind fun t163 => (dioramalaw01_BitsFolds.j0 k a0 t160 (t162 != t163)))) else (dioramalaw01_BitsFolds.j0 k a0 t160 true)) = some r := H
    have A4 := Aside0.mk A40
    clear A40
    by_cases c5 : t160 = t161
    · rw [if_pos c5] at H
      have c5b0 : (t160 == t161) = true := beq_iff_eq.mpr c5
      have c5b1 : (t160 != t161) = false := bne_eq_false_iff_eq.mpr c5
      clear c5
      (first | rw [c5b0] | (simp only [i64_w, i32_w]; rw [c5b0]) | skip)
      replace H := Option.bind_eq_some_iff.mp H
      obtain ⟨t162, A60, H⟩ := H
      replace H : ((dioramaref01_Unfold.f k a0).bind fun t163 => (dioramalaw01_BitsFolds.j0 k a0 t160 (t162 != t163))) = some r := H
      have A6 := Aside0.mk A60
      clear A60
      replace H := Option.bind_eq_some_iff.mp H
      obtain ⟨t163, A70, H⟩ := H
      replace H : (dioramalaw01_BitsFolds.j0 k a0 t160 (t162 != t163)) = some r := H
      have A7 := Aside0.mk A70
      clear A70
      have H' := Aside0.mk H
      clear H
      go_wp2_with (first | ((with_reducible refine gate_callee (f := 19) rfl ?_); refine goesL_ (some 8) rfl rfl Try.func19 (by kernel_rfl) rfl #[.int .i64 a0] rfl (by (try simp only [List.map_toArray, List.map_cons, List.map_nil]); first | done | rfl | (simp only [List.length_drop, List.length_take]; rfl)) ?_; (with_reducible refine (dioramaref01_Fold.calls k a0 t161 _ A4.out).mono ?_); rintro e w' ⟨rfl, ⟨nd, rfl⟩⟩; refine ⟨_, rfl, ?_⟩) | (go_at_call 20; (with_reducible refine (bits_Unfold.calls k a0 t162 _ A6.out).mono ?_); rintro e w' ⟨rfl, ⟨nd, rfl⟩⟩) | (go_at_call 21; (with_reducible refine (dioramaref01_Unfold.calls k a0 t163 _ A7.out).mono ?_); rintro e w' ⟨rfl, ⟨nd, rfl⟩⟩))
      go_meet
      case rel => exact ⟨_, ((t162 != t163)), (by first | rfl | (simp; done) | (simp [*]; done)), H', ⟨by first | omega | exact Nat.le_refl _⟩, ⟨by repeat (first | (with_reducible first | exact HB.out | apply below_alloc | apply pw_below_drewN | apply below_drew1) | exact HB.out)⟩⟩
    · rw [if_neg c5] at H
      have c5b0 : (t160 == t161) = false := beq_eq_false_iff_ne.mpr c5
      have c5b1 : (t160 != t161) = true := bne_iff_ne.mpr c5
      (first | rw [c5b0] | (simp only [i64_w, i32_w]; rw [c5b0]) | skip)
      have H' := Aside0.mk H
      clear H
      go_wp2_with (first | ((with_reducible refine gate_callee (f := 19) rfl ?_); refine goesL_ (some 8) rfl rfl Try.func19 (by kernel_rfl) rfl #[.int .i64 a0] rfl (by (try simp only [List.map_toArray, List.map_cons, List.map_nil]); first | done | rfl | (simp only [List.length_drop, List.length_take]; rfl)) ?_; (with_reducible refine (dioramaref01_Fold.calls k a0 t161 _ A4.out).mono ?_); rintro e w' ⟨rfl, ⟨nd, rfl⟩⟩; refine ⟨_, rfl, ?_⟩))
      go_meet
      case rel => exact ⟨_, (true), (by first | rfl | (simp; done) | (simp [*]; done)), H', ⟨by first | omega | exact Nat.le_refl _⟩, ⟨by repeat (first | (with_reducible first | exact HB.out | apply below_alloc | apply pw_below_drewN | apply below_drew1) | exact HB.out)⟩⟩
  case rest =>
    clear HC3
    try clear c1
    try clear p2
    try clear c5
    try clear c5b0
    try clear c5b1
    try clear c6
    obtain ⟨kq, x16_2, rfl, HA, HJ2, HB⟩ := hcut
    cases kq with
    | zero => exact absurd HA.out (by simp [dioramalaw01_BitsFolds.j0])
    | succ kj2 =>
      have H := HA.out
      clear HA
      simp only [dioramalaw01_BitsFolds.j0] at H
      by_cases c8 : x16_2 = true
      · subst c8
        have H1 : (some false) = some r := by rw [if_pos rfl] at H; exact H
        clear H
        have H := H1
        clear H1
        obtain rfl := Option.some.inj H
        go_wp2
        go_ret
        exact ⟨by first | rfl | (simp [errW_none, errW_some] <;> rfl) | (simp [*, errW_none, errW_some] <;> rfl), by repeat (first | (with_reducible first | exact HB.out | apply below_alloc | apply pw_below_drewN | apply below_drew1) | exact HB.out)⟩
      · replace c8 := Bool.eq_false_iff.mpr c8
        subst c8
        have H1 : (if a0 ≥ (-2305843009213693952) then (if a0 ≤ 2305843009213693952 then ((bits_Unfold.f kj2 t160).bind fun t164 => (dioramalaw01_BitsFolds.j1 kj2 (t164 != a0))) else (dioramalaw01_BitsFolds.j1 kj2 false)) else (dioramalaw01_BitsFolds.j1 kj2 false)) = some r := by rw [if_neg (show ¬ (false = true) by decide)] at H; exact H
        clear H
        have H := H1
        clear H1
        have HC9 := Aside0.mk H
        clear H
        go_upto_region 4 with (fail)
        go_cut [28] (fun v28 wc => ∃ (kq : Nat) (x28_8 : Bool), v28 = .bool x28_8 ∧ Aside0 (dioramalaw01_BitsFolds.j1 kq x28_8 = some r) ∧ Aside0 (kq ≤ kj2) ∧ Aside0 (Below w.heap.size w wc))
        case first =>
          have H := HC9.out
          clear HC9
          by_cases c10 : a0 ≥ (-2305843009213693952)
          · rw [if_pos c10] at H
            have c10b0 : decide ((-2305843009213693952) ≤ a0) = true := decide_eq_true c10
            clear c10
            (first | rw [c10b0] | (simp only [i64_w, i32_w]; rw [c10b0]) | skip)
            by_cases c11 : a0 ≤ 2305843009213693952
            · rw [if_pos c11] at H
              have c11b0 : decide (a0 ≤ 2305843009213693952) = true := decide_eq_true c11
              clear c11
              replace H := Option.bind_eq_some_iff.mp H
              obtain ⟨t164, A120, H⟩ := H
              replace H : (dioramalaw01_BitsFolds.j1 kj2 (t164 != a0)) = some r := H
              have A12 := Aside0.mk A120
              clear A120
              have H' := Aside0.mk H
              clear H
              go_wp2_with (first | (go_at_call 20; (with_reducible refine (bits_Unfold.calls kj2 t160 t164 _ A12.out).mono ?_); rintro e w' ⟨rfl, ⟨nd, rfl⟩⟩))
              go_meet
              case rel => exact ⟨_, ((t164 != a0)), (by first | rfl | (simp; done) | (simp [*]; done)), H', ⟨by have := HJ2.out; first | omega | exact Nat.le_refl _⟩, ⟨by repeat (first | (with_reducible first | exact HB.out | apply below_alloc | apply pw_below_drewN | apply below_drew1) | exact HB.out)⟩⟩
            · rw [if_neg c11] at H
              have c11b0 : decide (a0 ≤ 2305843009213693952) = false := decide_eq_false c11
              clear c11
              have H' := Aside0.mk H
              clear H
              go_wp2
              go_meet
              case rel => exact ⟨_, (false), (by first | rfl | (simp; done) | (simp [*]; done)), H', ⟨by have := HJ2.out; first | omega | exact Nat.le_refl _⟩, ⟨by repeat (first | (with_reducible first | exact HB.out | apply below_alloc | apply pw_below_drewN | apply below_drew1) | exact HB.out)⟩⟩
          · rw [if_neg c10] at H
            have c10b0 : decide ((-2305843009213693952) ≤ a0) = false := decide_eq_false c10
            clear c10
            (first | rw [c10b0] | (simp only [i64_w, i32_w]; rw [c10b0]) | skip)
            have H' := Aside0.mk H
            clear H
            go_wp2
            go_meet
            case rel => exact ⟨_, (false), (by first | rfl | (simp; done) | (simp [*]; done)), H', ⟨by have := HJ2.out; first | omega | exact Nat.le_refl _⟩, ⟨by repeat (first | (with_reducible first | exact HB.out | apply below_alloc | apply pw_below_drewN | apply below_drew1) | exact HB.out)⟩⟩
        case rest =>
          clear HC9
          try clear c1
          try clear p2
          try clear c5
          try clear c5b0
          try clear c5b1
          try clear c6
          try clear c8
          try clear c10
          try clear c10b0
          try clear c11
          try clear c11b0
          try clear p2
          obtain ⟨kq, x28_8, rfl, HA, HJ8, HB⟩ := hcut
          cases kq with
          | zero => exact absurd HA.out (by simp [dioramalaw01_BitsFolds.j1])
          | succ kj8 =>
            have H := HA.out
            clear HA
            simp only [dioramalaw01_BitsFolds.j1] at H
            by_cases c13 : x28_8 = true
            · subst c13
              have H1 : (some false) = some r := by rw [if_pos rfl] at H; exact H
              clear H
              have H := H1
              clear H1
              obtain rfl := Option.some.inj H
              go_wp2
              go_ret
              exact ⟨by first | rfl | (simp [errW_none, errW_some] <;> rfl) | (simp [*, errW_none, errW_some] <;> rfl), by repeat (first | (with_reducible first | exact HB.out | apply below_alloc | apply pw_below_drewN | apply below_drew1) | exact HB.out)⟩
            · replace c13 := Bool.eq_false_iff.mpr c13
              subst c13
              have H1 : ((bits_Fold.f kj8 (-3)).bind fun t165 => (if t165 = 5 then ((dioramalaw01_awake.f kj8).bind fun t166 => (some t166)) else (some false))) = some r := by rw [if_neg (show ¬ (false = true) by decide)] at H; exact H
              clear H
              have H := H1
              clear H1
              replace H := Option.bind_eq_some_iff.mp H
              obtain ⟨t165, A140, H⟩ := H
              replace H : (if t165 = 5 then ((dioramalaw01_awake.f kj8).bind fun t166 => (some t166)) else (some false)) = some r := H
              have A14 := Aside0.mk A140
              clear A140
              by_cases c15 : t165 = 5
              · rw [if_pos c15] at H
                have c15b0 : (t165 == 5) = true := beq_iff_eq.mpr c15
                have c15b1 : (t165 != 5) = false := bne_eq_false_iff_eq.mpr c15
                clear c15
                replace H := Option.bind_eq_some_iff.mp H
                obtain ⟨t166, A160, H⟩ := H
                replace H : (some t166) = some r := H
                have A16 := Aside0.mk A160
                clear A160
                obtain rfl := Option.some.inj H
                go_wp2_with (first | ((with_reducible refine gate_callee (f := 18) rfl ?_); refine goesL_ (some 29) rfl rfl Try.func18 (by kernel_rfl) rfl #[.int .i64 (-3)] rfl (by (try simp only [List.map_toArray, List.map_cons, List.map_nil]); first | done | rfl | (simp only [List.length_drop, List.length_take]; rfl)) ?_; (with_reducible refine (bits_Fold.calls kj8 (-3) t165 _ A14.out).mono ?_); rintro e w' ⟨rfl, ⟨nd, rfl⟩⟩; refine ⟨_, rfl, ?_⟩) | (go_at_call 15; (with_reducible refine (dioramalaw01_awake.calls kj8  t166 _ A16.out).mono ?_); rintro e w17 ⟨rfl, hb⟩; have n0_ := Aside0.mk (below_step (by repeat (first | (with_reducible first | exact HB.out | apply below_alloc | apply pw_below_drewN | apply below_drew1) | exact HB.out)) hb); clear HB; have HB := n0_; clear n0_; (try clear hb); (try clear hb2); (try clear hk); (try clear hi)))
                go_ret
                exact ⟨by first | rfl | (simp [errW_none, errW_some] <;> rfl) | (simp [*, errW_none, errW_some] <;> rfl), by repeat (first | (with_reducible first | exact HB.out | apply below_alloc | apply pw_below_drewN | apply below_drew1) | exact HB.out)⟩
              · rw [if_neg c15] at H
                have c15b0 : (t165 == 5) = false := beq_eq_false_iff_ne.mpr c15
                have c15b1 : (t165 != 5) = true := bne_iff_ne.mpr c15
                obtain rfl := Option.some.inj H
                go_wp2_with (first | ((with_reducible refine gate_callee (f := 18) rfl ?_); refine goesL_ (some 29) rfl rfl Try.func18 (by kernel_rfl) rfl #[.int .i64 (-3)] rfl (by (try simp only [List.map_toArray, List.map_cons, List.map_nil]); first | done | rfl | (simp only [List.length_drop, List.length_take]; rfl)) ?_; (with_reducible refine (bits_Fold.calls kj8 (-3) t165 _ A14.out).mono ?_); rintro e w' ⟨rfl, ⟨nd, rfl⟩⟩; refine ⟨_, rfl, ?_⟩))
                go_ret
                exact ⟨by first | rfl | (simp [errW_none, errW_some] <;> rfl) | (simp [*, errW_none, errW_some] <;> rfl), by repeat (first | (with_reducible first | exact HB.out | apply below_alloc | apply pw_below_drewN | apply below_drew1) | exact HB.out)⟩

/-- THE ONE PURE STATEMENT of dioramalaw01_BitsFolds: yours. -/
def dioramalaw01_BitsFolds.Pure : Prop := ∀ (a0 : Int), (Lit.int .i64 a0).wf = true → ∃ k, dioramalaw01_BitsFolds.f k a0 = some true
theorem dioramalaw01_BitsFolds.walk (P : dioramalaw01_BitsFolds.Pure) (a0 : Int) (w : World) (w0 : (Lit.int .i64 a0).wf = true) :
    Calls Try.prog 6 #[.int .i64 a0] w fun e w' => e = .returned (.bool true) ∧ Below w.heap.size w w' := by
  obtain ⟨k, h⟩ := P a0 w0
  refine (dioramalaw01_BitsFolds.calls k a0 true w h).mono ?_
  rintro e w' ⟨rfl, hd⟩
  exact ⟨rfl, hd⟩

end Go.Proofs.Ytlhdfdedhdcmiaa.QBits
