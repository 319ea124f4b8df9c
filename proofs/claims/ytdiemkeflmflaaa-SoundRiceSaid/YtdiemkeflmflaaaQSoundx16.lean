/- Part of a proof: functions of the program as Lean functions, and that the machine's calls come to them. Made by a program of this session (wip/mp). -/
import Derived.Test.YtdiemkeflmflaaaQSoundx0
import Derived.Test.YtdiemkeflmflaaaQSoundx2
import Derived.Test.YtdiemkeflmflaaaQSoundx15
namespace Go.Proofs.Ytdiemkeflmflaaa.QSound
open Go.RowKit Go.Proofs.YtdiemkeflmflaaaV Go.Proofs.YtdiemkeflmflaaaW.PrintWords Go.Proofs.YtdiemkeflmflaaaW.PrintLast Go.Proofs.YtdiemkeflmflaaaW.PrintMore
attribute [local go_sem] max2_int min2_int max_two min_two max_three min_three max_four min_four   -- for this text's walks alone
set_option linter.unusedVariables false
set_option linter.unusedSimpArgs false

/-! ### sound_Rice: function 27 -/
mutual
def sound_Rice.l0 : Nat → List Int → Int → Int → Int → Option (Int × Int × Int)
  | 0, _, _, _, _ => none
  | k + 1, x0, x2, x3, x13 => if x13 < 25 then (sound_Rice.l1 k x0 x2 x3 x13 0 false x13 x0 (x0.length : Int) 0) else (some (x2, x3, 0))
def sound_Rice.l1 : Nat → List Int → Int → Int → Int → Int → Bool → Int → List Int → Int → Int → Option (Int × Int × Int)
  | 0, _, _, _, _, _, _, _, _, _, _ => none
  | k + 1, x0, x2, x3, x5, x6, x7, x13, x16, x17, x18 => if x18 < x17 then (if 0 ≤ x18 then (if x18 < (x16.length : Int) then ((bits_Fold.f k (rd x16 x18)).bind fun t483 => (if 0 ≤ x5 then (if x7 = true then (sound_Rice.l1 k x0 x2 x3 x5 (wrap64 (x6 + (wrap64 ((wrap64 ((shr .i64 t483 x5) + 1)) + x5)))) true x13 x16 x17 (wrap64 (x18 + 1))) else (sound_Rice.l1 k x0 x2 x3 x5 (wrap64 (x6 + (wrap64 ((wrap64 ((shr .i64 t483 x5) + 1)) + x5)))) (decide ((shr .i64 t483 x5) > 65535)) x13 x16 x17 (wrap64 (x18 + 1)))) else (none))) else (none)) else (none)) else (if x7 = true then (sound_Rice.l0 k x0 x2 x3 (wrap64 (x13 + 1))) else (if x3 < 0 then (sound_Rice.l0 k x0 x5 x6 (wrap64 (x13 + 1))) else (if x6 < x3 then (sound_Rice.l0 k x0 x5 x6 (wrap64 (x13 + 1))) else (sound_Rice.l0 k x0 x2 x3 (wrap64 (x13 + 1))))))
end
def sound_Rice.f (k : Nat) (l0 : List Int) : Option (Int × Int × Int) := (sound_beyond.f l0 2147483648).bind fun t481 => (if t481 = true then (some (0, 0, 1)) else (sound_Rice.l0 k l0 0 (-1) 0))
theorem sound_Rice.mono_l : ∀ k, (∀ y0 y1 y2 y3, LeO (sound_Rice.l0 k y0 y1 y2 y3) (sound_Rice.l0 (k + 1) y0 y1 y2 y3)) ∧ (∀ y0 y1 y2 y3 y4 y5 y6 y7 y8 y9, LeO (sound_Rice.l1 k y0 y1 y2 y3 y4 y5 y6 y7 y8 y9) (sound_Rice.l1 (k + 1) y0 y1 y2 y3 y4 y5 y6 y7 y8 y9))
  | 0 => ⟨fun _ _ _ _ r h => by simp [sound_Rice.l0] at h, fun _ _ _ _ _ _ _ _ _ _ r h => by simp [sound_Rice.l1] at h⟩
  | k + 1 => by
    obtain ⟨ih0, ih1⟩ := sound_Rice.mono_l k
    refine ⟨?_, ?_⟩
    · intro y0 y1 y2 y3
      unfold sound_Rice.l0
      repeat' first
      | (with_reducible exact ih0 _ _ _ _)
      | (with_reducible exact ih1 _ _ _ _ _ _ _ _ _ _)
      | (with_reducible exact bits_Fold.mono _ _)
      | (with_reducible exact LeO.refl _)
      | (with_reducible exact LeO.none _)
      | (with_reducible refine LeO.ite ?_ ?_)
      | (with_reducible refine LeO.bind ?_ (fun _ => ?_))
      | exact ih0 _ _ _ _
      | exact ih1 _ _ _ _ _ _ _ _ _ _
      | exact bits_Fold.mono _ _
      | exact LeO.none _
      | refine LeO.ite ?_ ?_
      | refine LeO.bind ?_ (fun _ => ?_)
    · intro y0 y1 y2 y3 y4 y5 y6 y7 y8 y9
      unfold sound_Rice.l1
      repeat' first
      | (with_reducible exact ih0 _ _ _ _)
      | (with_reducible exact ih1 _ _ _ _ _ _ _ _ _ _)
      | (with_reducible exact bits_Fold.mono _ _)
      | (with_reducible exact LeO.refl _)
      | (with_reducible exact LeO.none _)
      | (with_reducible refine LeO.ite ?_ ?_)
      | (with_reducible refine LeO.bind ?_ (fun _ => ?_))
      | exact ih0 _ _ _ _
      | exact ih1 _ _ _ _ _ _ _ _ _ _
      | exact bits_Fold.mono _ _
      | exact LeO.none _
      | refine LeO.ite ?_ ?_
      | refine LeO.bind ?_ (fun _ => ?_)
theorem sound_Rice.mono : ∀ a0 k, LeO (sound_Rice.f k a0) (sound_Rice.f (k + 1) a0) := by
  intro a0 k
  obtain ⟨ih0, ih1⟩ := sound_Rice.mono_l k
  unfold sound_Rice.f
  repeat' first
      | (with_reducible exact ih0 _ _ _ _)
      | (with_reducible exact ih1 _ _ _ _ _ _ _ _ _ _)
      | (with_reducible exact bits_Fold.mono _ _)
      | (with_reducible exact LeO.refl _)
      | (with_reducible exact LeO.none _)
      | (with_reducible refine LeO.ite ?_ ?_)
      | (with_reducible refine LeO.bind ?_ (fun _ => ?_))
      | exact ih0 _ _ _ _
      | exact ih1 _ _ _ _ _ _ _ _ _ _
      | exact bits_Fold.mono _ _
      | exact LeO.none _
      | refine LeO.ite ?_ ?_
      | refine LeO.bind ?_ (fun _ => ?_)
set_option maxHeartbeats 8000000 in
set_option maxRecDepth 100000 in
theorem sound_Rice.calls (k : Nat) (A0 : Option Addr) (c0 : Nat) (l0 : List Int) (r1 : Int) (r2 : Int) (r3 : Int) (w : World) (hr0 : Kd.C (Kd.int .i64) w A0 l0.length l0) (hc0 : l0.length ≤ c0) (h : sound_Rice.f k l0 = some (r1, r2, r3)) :
    Calls Try.prog 27 #[.slice A0 l0.length c0] w fun e w' => e = .returned (.tuple #[.int .i64 r1, .int .i64 r2, .int .i64 r3]) ∧ Below w.heap.size w w' := by
  have HR0 := Aside0.mk hr0
  have HC0 := Aside0.mk hc0
  clear hr0 hc0
  have HB := Aside0.mk (Below.refl w.heap.size w)
  have H : ((sound_beyond.f l0 2147483648).bind fun t481 => (if t481 = true then (some (0, 0, 1)) else (sound_Rice.l0 k l0 0 (-1) 0))) = some (r1, r2, r3) := h
  clear h
  replace H := Option.bind_eq_some_iff.mp H
  obtain ⟨t481, A20, H⟩ := H
  replace H : (if t481 = true then (some (0, 0, 1)) else (sound_Rice.l0 k l0 0 (-1) 0)) = some (r1, r2, r3) := H
  have A2 := Aside0.mk A20
  clear A20
  by_cases c3 : t481 = true
  · subst c3
    have H1 : (some (0, 0, 1)) = some (r1, r2, r3) := by rw [if_pos rfl] at H; exact H
    clear H
    have H := H1
    clear H1
    simp only [Option.some.injEq, Prod.mk.injEq] at H
    obtain ⟨rfl, rfl, rfl⟩ := H
    go_enter Try.func27, Try.ntmps27
    go_wp2_with (first | ((with_reducible refine gate_callee (f := 62) rfl ?_); refine goesL_ (some 12) rfl rfl Try.func62 (by kernel_rfl) rfl #[.slice A0 l0.length c0, .int .i64 2147483648] rfl (by (try simp only [List.map_toArray, List.map_cons, List.map_nil]); first | done | rfl | (simp only [List.length_drop, List.length_take]; rfl)) ?_; (with_reducible refine (sound_beyond.calls _ _ l0 2147483648 true _ ?side1 ?side2 A2.out).mono ?_); (case side1 => repeat (first | exact HR0.out | (with_reducible refine Kd.C_alloc ?_ _) | (with_reducible refine Kd.C_drewN ?_ _) | (with_reducible refine Kd.C_drew ?_))); (case side2 => exact HC0.out); rintro e w4 ⟨rfl, hb⟩; refine ⟨_, rfl, ?_⟩; have n0_ := Aside0.mk (below_step (by repeat (first | (with_reducible first | exact HB.out | apply below_alloc | apply pw_below_drewN | apply below_drew1) | exact HB.out)) hb); clear HB; have HB := n0_; clear n0_; (try clear hb); (try clear hb2); (try clear hk); (try clear hi)))
    go_ret3
    exact ⟨by first | rfl | (simp [errW_none, errW_some] <;> rfl) | (simp [*, errW_none, errW_some] <;> rfl), by repeat (first | (with_reducible first | exact HB.out | apply below_alloc | apply pw_below_drewN | apply below_drew1) | exact HB.out)⟩
  · replace c3 := Bool.eq_false_iff.mpr c3
    subst c3
    have H1 : (sound_Rice.l0 k l0 0 (-1) 0) = some (r1, r2, r3) := by rw [if_neg (show ¬ (false = true) by decide)] at H; exact H
    clear H
    have H := H1
    clear H1
    have H' := Aside0.mk H
    clear H
    go_enter Try.func27, Try.ntmps27
    go_wp2_with (first | ((with_reducible refine gate_callee (f := 62) rfl ?_); refine goesL_ (some 12) rfl rfl Try.func62 (by kernel_rfl) rfl #[.slice A0 l0.length c0, .int .i64 2147483648] rfl (by (try simp only [List.map_toArray, List.map_cons, List.map_nil]); first | done | rfl | (simp only [List.length_drop, List.length_take]; rfl)) ?_; (with_reducible refine (sound_beyond.calls _ _ l0 2147483648 false _ ?side1 ?side2 A2.out).mono ?_); (case side1 => repeat (first | exact HR0.out | (with_reducible refine Kd.C_alloc ?_ _) | (with_reducible refine Kd.C_drewN ?_ _) | (with_reducible refine Kd.C_drew ?_))); (case side2 => exact HC0.out); rintro e w5 ⟨rfl, hb⟩; refine ⟨_, rfl, ?_⟩; have n0_ := Aside0.mk (below_step (by repeat (first | (with_reducible first | exact HB.out | apply below_alloc | apply pw_below_drewN | apply below_drew1) | exact HB.out)) hb); clear HB; have HB := n0_; clear n0_; (try clear hb); (try clear hb2); (try clear hk); (try clear hi)))
    go_loopg [2, 3, 13] k (fun kq v2 v3 v13 w' => ∃ (x2_1 : Int) (x3_1 : Int) (x13_1 : Int), v2 = .int .i64 x2_1 ∧ v3 = .int .i64 x3_1 ∧ v13 = .int .i64 x13_1 ∧ Aside0 (sound_Rice.l0 kq l0 x2_1 x3_1 x13_1 = some (r1, r2, r3)) ∧ Aside0 (kq ≤ k) ∧ Aside0 (Below w.heap.size w w'))
    case atStart => exact ⟨(0), ((-1)), (0), (by first | rfl | (simp; done) | (simp [*]; done)), (by first | rfl | (simp; done) | (simp [*]; done)), (by first | rfl | (simp; done) | (simp [*]; done)), H', ⟨Nat.le_refl _⟩, ⟨by repeat (first | (with_reducible first | exact HB.out | apply below_alloc | apply pw_below_drewN | apply below_drew1) | exact HB.out)⟩⟩
    case round =>
      clear H'
      try clear c2
      try clear p2
      try clear c3
      obtain ⟨x2_1, x3_1, x13_1, rfl, rfl, rfl, HA, HK1, HB⟩ := hrel
      cases gk with
      | zero => exact absurd HA.out (by simp [sound_Rice.l0])
      | succ k1 =>
        have H := HA.out
        clear HA
        simp only [sound_Rice.l0] at H
        by_cases c6 : x13_1 < 25
        · rw [if_pos c6] at H
          have c6b0 : decide (x13_1 < 25) = true := decide_eq_true c6
          clear c6
          have H' := Aside0.mk H
          clear H
          go_wp2
          go_loopg [6, 7, 18] k1 (fun kq v6 v7 v18 w' => ∃ (x6_2 : Int) (x7_2 : Bool) (x18_2 : Int), v6 = .int .i64 x6_2 ∧ v7 = .bool x7_2 ∧ v18 = .int .i64 x18_2 ∧ Aside0 (sound_Rice.l1 kq l0 x2_1 x3_1 x13_1 x6_2 x7_2 x13_1 l0 (l0.length : Int) x18_2 = some (r1, r2, r3)) ∧ Aside0 (kq ≤ k1) ∧ Aside0 (Below w.heap.size w w'))
          case atStart => exact ⟨(0), (false), (0), (by first | rfl | (simp; done) | (simp [*]; done)), (by first | rfl | (simp; done) | (simp [*]; done)), (by first | rfl | (simp; done) | (simp [*]; done)), H', ⟨Nat.le_refl _⟩, ⟨by repeat (first | (with_reducible first | exact HB.out | apply below_alloc | apply pw_below_drewN | apply below_drew1) | exact HB.out)⟩⟩
          case round =>
            clear H'
            try clear c2
            try clear p2
            try clear c3
            try clear c6
            try clear c6b0
            try clear p2
            obtain ⟨x6_2, x7_2, x18_2, rfl, rfl, rfl, HA, HK2, HB⟩ := hrel
            cases gk with
            | zero => exact absurd HA.out (by simp [sound_Rice.l1])
            | succ k2 =>
              have H := HA.out
              clear HA
              simp only [sound_Rice.l1] at H
              by_cases c7 : x18_2 < (l0.length : Int)
              · rw [if_pos c7] at H
                have c7b0 : decide (x18_2 < (l0.length : Int)) = true := decide_eq_true c7
                clear c7
                by_cases c8 : 0 ≤ x18_2
                · rw [if_pos c8] at H
                  have c8b0 : decide (0 ≤ x18_2) = true := decide_eq_true c8
                  clear c8
                  by_cases c9 : x18_2 < (l0.length : Int)
                  · rw [if_pos c9] at H
                    have c9b0 : decide (x18_2 < (l0.length : Int)) = true := decide_eq_true c9
                    clear c9
                    replace H := Option.bind_eq_some_iff.mp H
                    obtain ⟨t483, A100, H⟩ := H
                    replace H : (if 0 ≤ x13_1 then (if x7_2 = true then (sound_Rice.l1 k2 l0 x2_1 x3_1 x13_1 (wrap64 (x6_2 + (wrap64 ((wrap64 ((shr .i64 t483 x13_1) + 1)) + x13_1)))) true x13_1 l0 (l0.length : Int) (wrap64 (x18_2 + 1))) else (sound_Rice.l1 k2 l0 x2_1 x3_1 x13_1 (wrap64 (x6_2 + (wrap64 ((wrap64 ((shr .i64 t483 x13_1) + 1)) + x13_1)))) (decide ((shr .i64 t483 x13_1) > 65535)) x13_1 l0 (l0.length : Int) (wrap64 (x18_2 + 1)))) else (none)) = some (r1, r2, r3) := H
                    have A10 := Aside0.mk A100
                    clear A100
                    by_cases c11 : 0 ≤ x13_1
                    · rw [if_pos c11] at H
                      have c11b0 := eq_true c11
                      have c11b1 : decide (0 ≤ x13_1) = true := decide_eq_true c11
                      clear c11
                      obtain ⟨ji12, hji12⟩ : ∃ j_ : Int, (shr .i64 t483 x13_1) = j_ := ⟨_, rfl⟩
                      replace H : (if x7_2 = true then (sound_Rice.l1 k2 l0 x2_1 x3_1 x13_1 (wrap64 (x6_2 + (wrap64 ((wrap64 ((ji12) + 1)) + x13_1)))) true x13_1 l0 (l0.length : Int) (wrap64 (x18_2 + 1))) else (sound_Rice.l1 k2 l0 x2_1 x3_1 x13_1 (wrap64 (x6_2 + (wrap64 ((wrap64 ((ji12) + 1)) + x13_1)))) (decide ((ji12) > 65535)) x13_1 l0 (l0.length : Int) (wrap64 (x18_2 + 1)))) = some (r1, r2, r3) := by first | (rw [hji12] at H; exact H) | (simp only [hji12] at H ⊢; exact H)
                      (try rw [hji12] at A10)
                      have hji12_ : (t483 / 2 ^ min x13_1.toNat 64) = ji12 := hji12
                      have hji12z : x13_1 ≤ 64 → (t483 / 2 ^ x13_1.toNat) = ji12 := shr_small hji12
                      by_cases c13 : x7_2 = true
                      · subst c13
                        have H1 : (sound_Rice.l1 k2 l0 x2_1 x3_1 x13_1 (wrap64 (x6_2 + (wrap64 ((wrap64 ((ji12) + 1)) + x13_1)))) true x13_1 l0 (l0.length : Int) (wrap64 (x18_2 + 1))) = some (r1, r2, r3) := by rw [if_pos rfl] at H; exact H
                        clear H
                        have H := H1
                        clear H1
                        have H' := Aside0.mk H
                        clear H
                        have p482 : 0 ≤ (x18_2 : Int) := of_decide_eq_true (by first | (with_reducible assumption) | assumption)
                        have q482 : x18_2 < (l0.length : Int) := of_decide_eq_true (by first | (with_reducible assumption) | assumption)
                        obtain ⟨ad482, e482, hx482_0⟩ := Kd.at_int HR0.out x18_2 p482 q482
                        cases e482
                        replace hx482_0 := (HB.out.cell (World.block_lt_of_cell? w _ hx482_0)).trans hx482_0
                        replace p482 := eq_true p482
                        replace q482 := eq_true q482
                        go_wp2_with (first | ((with_reducible refine gate_callee (f := 74) rfl ?_); refine goesL_ (some 23) rfl rfl Try.func74 (by kernel_rfl) rfl #[.int .i64 (rd l0 x18_2)] rfl (by (try simp only [List.map_toArray, List.map_cons, List.map_nil]); first | done | rfl | (simp only [List.length_drop, List.length_take]; rfl)) ?_; (with_reducible refine (bits_Fold.calls k2 (rd l0 x18_2) t483 _ A10.out).mono ?_); rintro e w' ⟨rfl, ⟨nd, rfl⟩⟩; refine ⟨_, rfl, ?_⟩))
                        go_roundg k2
                        case measure => have := HK1.out; have := HK2.out; omega
                        case rel => exact ⟨(wrap64 (x6_2 + (wrap64 ((wrap64 ((ji12) + 1)) + x13_1)))), (true), (wrap64 (x18_2 + 1)), (by first | rfl | (simp; done) | (simp only [← hji12] <;> (first | rfl | simp)) | (simp [*]; done)), (by first | rfl | (simp; done) | (simp [*]; done)), (by first | rfl | (simp; done) | (simp [*]; done)), H', ⟨by have := HK1.out; have := HK2.out; omega⟩, ⟨by repeat (first | (with_reducible first | exact HB.out | apply below_alloc | apply pw_below_drewN | apply below_drew1) | exact HB.out)⟩⟩
                      · replace c13 := Bool.eq_false_iff.mpr c13
                        subst c13
                        have H1 : (sound_Rice.l1 k2 l0 x2_1 x3_1 x13_1 (wrap64 (x6_2 + (wrap64 ((wrap64 ((ji12) + 1)) + x13_1)))) (decide ((ji12) > 65535)) x13_1 l0 (l0.length : Int) (wrap64 (x18_2 + 1))) = some (r1, r2, r3) := by rw [if_neg (show ¬ (false = true) by decide)] at H; exact H
                        clear H
                        have H := H1
                        clear H1
                        have H' := Aside0.mk H
                        clear H
                        have p482 : 0 ≤ (x18_2 : Int) := of_decide_eq_true (by first | (with_reducible assumption) | assumption)
                        have q482 : x18_2 < (l0.length : Int) := of_decide_eq_true (by first | (with_reducible assumption) | assumption)
                        obtain ⟨ad482, e482, hx482_0⟩ := Kd.at_int HR0.out x18_2 p482 q482
                        cases e482
                        replace hx482_0 := (HB.out.cell (World.block_lt_of_cell? w _ hx482_0)).trans hx482_0
                        replace p482 := eq_true p482
                        replace q482 := eq_true q482
                        go_wp2_with (first | ((with_reducible refine gate_callee (f := 74) rfl ?_); refine goesL_ (some 23) rfl rfl Try.func74 (by kernel_rfl) rfl #[.int .i64 (rd l0 x18_2)] rfl (by (try simp only [List.map_toArray, List.map_cons, List.map_nil]); first | done | rfl | (simp only [List.length_drop, List.length_take]; rfl)) ?_; (with_reducible refine (bits_Fold.calls k2 (rd l0 x18_2) t483 _ A10.out).mono ?_); rintro e w' ⟨rfl, ⟨nd, rfl⟩⟩; refine ⟨_, rfl, ?_⟩))
                        go_roundg k2
                        case measure => have := HK1.out; have := HK2.out; omega
                        case rel => exact ⟨(wrap64 (x6_2 + (wrap64 ((wrap64 ((ji12) + 1)) + x13_1)))), (decide ((ji12) > 65535)), (wrap64 (x18_2 + 1)), (by first | rfl | (simp; done) | (simp only [← hji12] <;> (first | rfl | simp)) | (simp [*]; done)), (by first | rfl | (simp; done) | (simp only [← hji12] <;> (first | rfl | simp)) | (simp [*]; done)), (by first | rfl | (simp; done) | (simp [*]; done)), H', ⟨by have := HK1.out; have := HK2.out; omega⟩, ⟨by repeat (first | (with_reducible first | exact HB.out | apply below_alloc | apply pw_below_drewN | apply below_drew1) | exact HB.out)⟩⟩
                    · rw [if_neg c11] at H
                      exact absurd H (by simp)
                  · rw [if_neg c9] at H
                    exact absurd H (by simp)
                · rw [if_neg c8] at H
                  exact absurd H (by simp)
              · rw [if_neg c7] at H
                have c7b0 : decide (x18_2 < (l0.length : Int)) = false := decide_eq_false c7
                clear c7
                by_cases c14 : x7_2 = true
                · subst c14
                  have H1 : (sound_Rice.l0 k2 l0 x2_1 x3_1 (wrap64 (x13_1 + 1))) = some (r1, r2, r3) := by rw [if_pos rfl] at H; exact H
                  clear H
                  have H := H1
                  clear H1
                  have H' := Aside0.mk H
                  clear H
                  go_wp2
                  go_roundg k2
                  case measure => have := HK1.out; have := HK2.out; omega
                  case rel => exact ⟨(x2_1), (x3_1), (wrap64 (x13_1 + 1)), (by first | rfl | (simp; done) | (simp [*]; done)), (by first | rfl | (simp; done) | (simp [*]; done)), (by first | rfl | (simp; done) | (simp [*]; done)), H', ⟨by have := HK1.out; have := HK2.out; omega⟩, ⟨by repeat (first | (with_reducible first | exact HB.out | apply below_alloc | apply pw_below_drewN | apply below_drew1) | exact HB.out)⟩⟩
                · replace c14 := Bool.eq_false_iff.mpr c14
                  subst c14
                  have H1 : (if x3_1 < 0 then (sound_Rice.l0 k2 l0 x13_1 x6_2 (wrap64 (x13_1 + 1))) else (if x6_2 < x3_1 then (sound_Rice.l0 k2 l0 x13_1 x6_2 (wrap64 (x13_1 + 1))) else (sound_Rice.l0 k2 l0 x2_1 x3_1 (wrap64 (x13_1 + 1))))) = some (r1, r2, r3) := by rw [if_neg (show ¬ (false = true) by decide)] at H; exact H
                  clear H
                  have H := H1
                  clear H1
                  by_cases c15 : x3_1 < 0
                  · rw [if_pos c15] at H
                    have c15b0 : decide (x3_1 < 0) = true := decide_eq_true c15
                    clear c15
                    have H' := Aside0.mk H
                    clear H
                    go_wp2
                    go_roundg k2
                    case measure => have := HK1.out; have := HK2.out; omega
                    case rel => exact ⟨(x13_1), (x6_2), (wrap64 (x13_1 + 1)), (by first | rfl | (simp; done) | (simp [*]; done)), (by first | rfl | (simp; done) | (simp [*]; done)), (by first | rfl | (simp; done) | (simp [*]; done)), H', ⟨by have := HK1.out; have := HK2.out; omega⟩, ⟨by repeat (first | (with_reducible first | exact HB.out | apply below_alloc | apply pw_below_drewN | apply below_drew1) | exact HB.out)⟩⟩
                  · rw [if_neg c15] at H
                    have c15b0 : decide (x3_1 < 0) = false := decide_eq_false c15
                    clear c15
                    by_cases c16 : x6_2 < x3_1
                    · rw [if_pos c16] at H
                      have c16b0 : decide (x6_2 < x3_1) = true := decide_eq_true c16
                      clear c16
                      have H' := Aside0.mk H
                      clear H
                      go_wp2
                      go_roundg k2
                      case measure => have := HK1.out; have := HK2.out; omega
                      case rel => exact ⟨(x13_1), (x6_2), (wrap64 (x13_1 + 1)), (by first | rfl | (simp; done) | (simp [*]; done)), (by first | rfl | (simp; done) | (simp [*]; done)), (by first | rfl | (simp; done) | (simp [*]; done)), H', ⟨by have := HK1.out; have := HK2.out; omega⟩, ⟨by repeat (first | (with_reducible first | exact HB.out | apply below_alloc | apply pw_below_drewN | apply below_drew1) | exact HB.out)⟩⟩
                    · rw [if_neg c16] at H
                      have c16b0 : decide (x6_2 < x3_1) = false := decide_eq_false c16
                      clear c16
                      have H' := Aside0.mk H
                      clear H
                      go_wp2
                      go_roundg k2
                      case measure => have := HK1.out; have := HK2.out; omega
                      case rel => exact ⟨(x2_1), (x3_1), (wrap64 (x13_1 + 1)), (by first | rfl | (simp; done) | (simp [*]; done)), (by first | rfl | (simp; done) | (simp [*]; done)), (by first | rfl | (simp; done) | (simp [*]; done)), H', ⟨by have := HK1.out; have := HK2.out; omega⟩, ⟨by repeat (first | (with_reducible first | exact HB.out | apply below_alloc | apply pw_below_drewN | apply below_drew1) | exact HB.out)⟩⟩
        · rw [if_neg c6] at H
          have c6b0 : decide (x13_1 < 25) = false := decide_eq_false c6
          clear c6
          simp only [Option.some.injEq, Prod.mk.injEq] at H
          obtain ⟨rfl, rfl, rfl⟩ := H
          go_wp2
          go_ret3
          exact ⟨by first | rfl | (simp [errW_none, errW_some] <;> rfl) | (simp [*, errW_none, errW_some] <;> rfl), by repeat (first | (with_reducible first | exact HB.out | apply below_alloc | apply pw_below_drewN | apply below_drew1) | exact HB.out)⟩

end Go.Proofs.Ytdiemkeflmflaaa.QSound
