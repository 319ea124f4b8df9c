/- Part of a proof: functions of the program as Lean functions, and that the machine's calls come to them. Made by a program of this session (wip/mp). -/
import Derived.Test.YtaebgjdaoloceaaQBitmapx0
import Derived.Test.YtaebgjdaoloceaaQBitmapx1
import Derived.Test.YtaebgjdaoloceaaQBitmapx7
namespace Go.Proofs.Ytaebgjdaoloceaa.QBitmap
open Go.RowKit Go.Proofs.YtaebgjdaoloceaaV Go.Proofs.YtaebgjdaoloceaaW.PrintWords Go.Proofs.YtaebgjdaoloceaaW.PrintLast Go.Proofs.YtaebgjdaoloceaaW.PrintMore
attribute [local go_sem] max2_int min2_int max_two min_two max_three min_three max_four min_four   -- for this text's walks alone
set_option linter.unusedVariables false
set_option linter.unusedSimpArgs false

/-! ### bitmap_Pixels: function 14 -/
mutual
def bitmap_Pixels.j0 : Nat → List Int → Int → Int → Bool → Option (List Int × Int)
  | 0, _, _, _, _ => none
  | k + 1, x0, x1, x2, x20 => if x20 = true then (some (([] : List Int), 1)) else (bitmap_Pixels.l0 k x0 x1 ([] : List Int) x2 0)
def bitmap_Pixels.l0 : Nat → List Int → Int → List Int → Int → Int → Option (List Int × Int)
  | 0, _, _, _, _, _ => none
  | k + 1, x0, x1, x8, x21, x22 => if x22 < x21 then (bitmap_Pixels.l1 k x0 x1 x8 (-1) x1 x21 x22) else (if (x0.length : Int) > 0 then (some (([] : List Int), 4)) else (some (x8, 0)))
def bitmap_Pixels.l1 : Nat → List Int → Int → List Int → Int → Int → Int → Int → Option (List Int × Int)
  | 0, _, _, _, _, _, _, _ => none
  | k + 1, x0, x1, x8, x9, x10, x21, x22 => if x10 > 0 then (if (x0.length : Int) = 0 then (some (([] : List Int), 3)) else (if 0 < (x0.length : Int) then (if 1 ≤ (x0.length : Int) then ((some (x0.drop 1 : List Int)).bind fun y179 => (if (wrap64 (Go.bits .and .u8 (rd x0 0) 15)) = 0 then (if (wrap64 ((rd x0 0) / 16)) = x9 then (some (([] : List Int), 4)) else ((slices_Repeat_int_int.f (([wrap64 ((rd x0 0) / 16)] : List Int)) x10).bind fun t187 => (if x8.length + t187.length < 17592186044416 then (bitmap_Pixels.l1 k y179 x1 (x8 ++ t187) (wrap64 ((rd x0 0) / 16)) (wrap64 (x10 - x10)) x21 x22) else (none)))) else (if (wrap64 (Go.bits .and .u8 (rd x0 0) 15)) = 15 then (if (y179.length : Int) = 0 then (some (([] : List Int), 3)) else (if 0 < (y179.length : Int) then (if 1 ≤ (y179.length : Int) then ((some (y179.drop 1 : List Int)).bind fun y194 => (if (wrap64 ((wrap64 (Go.bits .and .u8 (rd x0 0) 15)) + (wrap64 (rd y179 0)))) > 63 then (bitmap_Pixels.j3 k y194 x1 x8 x9 x10 (wrap64 ((rd x0 0) / 16)) (wrap64 ((wrap64 (Go.bits .and .u8 (rd x0 0) 15)) + (wrap64 (rd y179 0)))) x21 x22 true) else (bitmap_Pixels.j3 k y194 x1 x8 x9 x10 (wrap64 ((rd x0 0) / 16)) (wrap64 ((wrap64 (Go.bits .and .u8 (rd x0 0) 15)) + (wrap64 (rd y179 0)))) x21 x22 (decide ((wrap64 ((wrap64 (Go.bits .and .u8 (rd x0 0) 15)) + (wrap64 (rd y179 0)))) ≥ x10))))) else (none)) else (none))) else (if (wrap64 (Go.bits .and .u8 (rd x0 0) 15)) ≥ x10 then (some (([] : List Int), 4)) else (if (wrap64 ((rd x0 0) / 16)) = x9 then (some (([] : List Int), 4)) else ((slices_Repeat_int_int.f (([wrap64 ((rd x0 0) / 16)] : List Int)) (wrap64 (Go.bits .and .u8 (rd x0 0) 15))).bind fun t211 => (if x8.length + t211.length < 17592186044416 then (bitmap_Pixels.l1 k y179 x1 (x8 ++ t211) (wrap64 ((rd x0 0) / 16)) (wrap64 (x10 - (wrap64 (Go.bits .and .u8 (rd x0 0) 15)))) x21 x22) else (none)))))))) else (none)) else (none))) else (bitmap_Pixels.l0 k x0 x1 x8 x21 (wrap64 (x22 + 1)))
def bitmap_Pixels.j3 : Nat → List Int → Int → List Int → Int → Int → Int → Int → Int → Int → Bool → Option (List Int × Int)
  | 0, _, _, _, _, _, _, _, _, _, _ => none
  | k + 1, x0, x1, x8, x9, x10, x11, x12, x21, x22, x66 => if x66 = true then (some (([] : List Int), 4)) else (if x11 = x9 then (some (([] : List Int), 4)) else ((slices_Repeat_int_int.f (([x11] : List Int)) x12).bind fun t202 => (if x8.length + t202.length < 17592186044416 then (bitmap_Pixels.l1 k x0 x1 (x8 ++ t202) x11 (wrap64 (x10 - x12)) x21 x22) else (none))))
end
def bitmap_Pixels.f (k : Nat) (l0 : List Int) (a1 : Int) (a2 : Int) : Option (List Int × Int) := (bitmap_within.f a1 1 64).bind fun t175 => (if t175 = true then ((bitmap_within.f a2 1 64).bind fun t176 => (bitmap_Pixels.j0 k l0 a1 a2 (!t176))) else (bitmap_Pixels.j0 k l0 a1 a2 true))
theorem bitmap_Pixels.mono_l : ∀ k, (∀ y0 y1 y2 y3, LeO (bitmap_Pixels.j0 k y0 y1 y2 y3) (bitmap_Pixels.j0 (k + 1) y0 y1 y2 y3)) ∧ (∀ y0 y1 y2 y3 y4, LeO (bitmap_Pixels.l0 k y0 y1 y2 y3 y4) (bitmap_Pixels.l0 (k + 1) y0 y1 y2 y3 y4)) ∧ (∀ y0 y1 y2 y3 y4 y5 y6, LeO (bitmap_Pixels.l1 k y0 y1 y2 y3 y4 y5 y6) (bitmap_Pixels.l1 (k + 1) y0 y1 y2 y3 y4 y5 y6)) ∧ (∀ y0 y1 y2 y3 y4 y5 y6 y7 y8 y9, LeO (bitmap_Pixels.j3 k y0 y1 y2 y3 y4 y5 y6 y7 y8 y9) (bitmap_Pixels.j3 (k + 1) y0 y1 y2 y3 y4 y5 y6 y7 y8 y9))
  | 0 => ⟨fun _ _ _ _ r h => by simp [bitmap_Pixels.j0] at h, fun _ _ _ _ _ r h => by simp [bitmap_Pixels.l0] at h, fun _ _ _ _ _ _ _ r h => by simp [bitmap_Pixels.l1] at h, fun _ _ _ _ _ _ _ _ _ _ r h => by simp [bitmap_Pixels.j3] at h⟩
  | k + 1 => by
    obtain ⟨ih0, ih1, ih2, ih3⟩ := bitmap_Pixels.mono_l k
    refine ⟨?_, ?_, ?_, ?_⟩
    · intro y0 y1 y2 y3
      unfold bitmap_Pixels.j0
      repeat' first
      | (with_reducible exact ih0 _ _ _ _)
      | (with_reducible exact ih1 _ _ _ _ _)
      | (with_reducible exact ih2 _ _ _ _ _ _ _)
      | (with_reducible exact ih3 _ _ _ _ _ _ _ _ _ _)
      | (with_reducible exact LeO.refl _)
      | (with_reducible exact LeO.none _)
      | (with_reducible refine LeO.ite ?_ ?_)
      | (with_reducible refine LeO.bind ?_ (fun _ => ?_))
      | exact ih0 _ _ _ _
      | exact ih1 _ _ _ _ _
      | exact ih2 _ _ _ _ _ _ _
      | exact ih3 _ _ _ _ _ _ _ _ _ _
      | exact LeO.none _
      | refine LeO.ite ?_ ?_
      | refine LeO.bind ?_ (fun _ => ?_)
    · intro y0 y1 y2 y3 y4
      unfold bitmap_Pixels.l0
      repeat' first
      | (with_reducible exact ih0 _ _ _ _)
      | (with_reducible exact ih1 _ _ _ _ _)
      | (with_reducible exact ih2 _ _ _ _ _ _ _)
      | (with_reducible exact ih3 _ _ _ _ _ _ _ _ _ _)
      | (with_reducible exact LeO.refl _)
      | (with_reducible exact LeO.none _)
      | (with_reducible refine LeO.ite ?_ ?_)
      | (with_reducible refine LeO.bind ?_ (fun _ => ?_))
      | exact ih0 _ _ _ _
      | exact ih1 _ _ _ _ _
      | exact ih2 _ _ _ _ _ _ _
      | exact ih3 _ _ _ _ _ _ _ _ _ _
      | exact LeO.none _
      | refine LeO.ite ?_ ?_
      | refine LeO.bind ?_ (fun _ => ?_)
    · intro y0 y1 y2 y3 y4 y5 y6
      unfold bitmap_Pixels.l1
      repeat' first
      | (with_reducible exact ih0 _ _ _ _)
      | (with_reducible exact ih1 _ _ _ _ _)
      | (with_reducible exact ih2 _ _ _ _ _ _ _)
      | (with_reducible exact ih3 _ _ _ _ _ _ _ _ _ _)
      | (with_reducible exact LeO.refl _)
      | (with_reducible exact LeO.none _)
      | (with_reducible refine LeO.ite ?_ ?_)
      | (with_reducible refine LeO.bind ?_ (fun _ => ?_))
      | exact ih0 _ _ _ _
      | exact ih1 _ _ _ _ _
      | exact ih2 _ _ _ _ _ _ _
      | exact ih3 _ _ _ _ _ _ _ _ _ _
      | exact LeO.none _
      | refine LeO.ite ?_ ?_
      | refine LeO.bind ?_ (fun _ => ?_)
    · intro y0 y1 y2 y3 y4 y5 y6 y7 y8 y9
      unfold bitmap_Pixels.j3
      repeat' first
      | (with_reducible exact ih0 _ _ _ _)
      | (with_reducible exact ih1 _ _ _ _ _)
      | (with_reducible exact ih2 _ _ _ _ _ _ _)
      | (with_reducible exact ih3 _ _ _ _ _ _ _ _ _ _)
      | (with_reducible exact LeO.refl _)
      | (with_reducible exact LeO.none _)
      | (with_reducible refine LeO.ite ?_ ?_)
      | (with_reducible refine LeO.bind ?_ (fun _ => ?_))
      | exact ih0 _ _ _ _
      | exact ih1 _ _ _ _ _
      | exact ih2 _ _ _ _ _ _ _
      | exact ih3 _ _ _ _ _ _ _ _ _ _
      | exact LeO.none _
      | refine LeO.ite ?_ ?_
      | refine LeO.bind ?_ (fun _ => ?_)
theorem bitmap_Pixels.mono : ∀ a0 a1 a2 k, LeO (bitmap_Pixels.f k a0 a1 a2) (bitmap_Pixels.f (k + 1) a0 a1 a2) := by
  intro a0 a1 a2 k
  obtain ⟨ih0, ih1, ih2, ih3⟩ := bitmap_Pixels.mono_l k
  unfold bitmap_Pixels.f
  repeat' first
      | (with_reducible exact ih0 _ _ _ _)
      | (with_reducible exact ih1 _ _ _ _ _)
      | (with_reducible exact ih2 _ _ _ _ _ _ _)
      | (with_reducible exact ih3 _ _ _ _ _ _ _ _ _ _)
      | (with_reducible exact LeO.refl _)
      | (with_reducible exact LeO.none _)
      | (with_reducible refine LeO.ite ?_ ?_)
      | (with_reducible refine LeO.bind ?_ (fun _ => ?_))
      | exact ih0 _ _ _ _
      | exact ih1 _ _ _ _ _
      | exact ih2 _ _ _ _ _ _ _
      | exact ih3 _ _ _ _ _ _ _ _ _ _
      | exact LeO.none _
      | refine LeO.ite ?_ ?_
      | refine LeO.bind ?_ (fun _ => ?_)
set_option maxHeartbeats 8000000 in
set_option maxRecDepth 100000 in
theorem bitmap_Pixels.calls (k : Nat) (P0_ : Nat → Prop) (A0 : Option Addr) (c0 : Nat) (l0 : List Int) (a1 : Int) (a2 : Int) (r1 : List Int) (r2 : Int) (w : World) (hs0 : Kd.V (Kd.int .u8) 5 w w.heap.size (fun k_ => P0_ k_) (.slice A0 l0.length c0) l0) (h : bitmap_Pixels.f k l0 a1 a2 = some (r1, r2)) :
    Calls Try.prog 14 #[.slice A0 l0.length c0, .int .i64 a1, .int .i64 a2] w fun e w' => ∃ v0_ : Value, e = .returned (.tuple #[v0_, .int .i64 r2]) ∧ Kd.R (Kd.int .i64) 3 w' w.heap.size (fun k_ => (w.heap.size ≤ k_)) v0_ r1 ∧ Below w.heap.size w w' := by
  have HO0 := Aside0.mk (show Kd.V (Kd.int .u8) 5 w w.heap.size (fun k_ => (P0_ k_ ∨ w.heap.size ≤ k_)) (.slice A0 l0.length c0) l0 from Kd.V_mono hs0 (fun k_ hk => .inl hk))
  have HB := Aside0.mk (Below.refl w.heap.size w)
  have H : ((bitmap_within.f a1 1 64).bind fun t175 => (if t175 = true then ((bitmap_within.f a2 1 64).bind fun t176 => (bitmap_Pixels.j0 k l0 a1 a2 (!t176))) else (bitmap_Pixels.j0 k l0 a1 a2 true))) = some (r1, r2) := h
  clear h
  have HC4 := Aside0.mk H
  clear H
  go_enter Try.func14, Try.ntmps14
  go_upto_region 1 with (fail)
  repeat (go_quiet (fail); go_upto_region 1 with (fail))
  go_cut [20] (fun v20 wc => ∃ (kq : Nat) (x20_3 : Bool), v20 = .bool x20_3 ∧ Aside0 (bitmap_Pixels.j0 kq l0 a1 a2 x20_3 = some (r1, r2)) ∧ Aside0 (kq ≤ k) ∧ Aside0 (Kd.V (Kd.int .u8) 5 wc w.heap.size (fun k_ => (P0_ k_ ∨ w.heap.size ≤ k_)) (.slice A0 l0.length c0) l0) ∧ Aside0 (Below w.heap.size w wc))
  case first =>
    have H := HC4.out
    clear HC4
    replace H := Option.bind_eq_some_iff.mp H
    obtain ⟨t175, A50, H⟩ := H
    replace H : (if t175 = true then ((bitmap_within.f a2 1 64).bind fun t176 => (bitmap_Pixels.j0 k l0 a1 a2 (!t176))) else (bitmap_Pixels.j0 k l0 a1 a2 true)) = some (r1, r2) := H
    have A5 := Aside0.mk A50
    clear A50
    by_cases c6 : t175 = true
    · subst c6
      have H1 : ((bitmap_within.f a2 1 64).bind fun t176 => (bitmap_Pixels.j0 k l0 a1 a2 (!t176))) = some (r1, r2) := by rw [if_pos rfl] at H; exact H
      clear H
      have H := H1
      clear H1
      replace H := Option.bind_eq_some_iff.mp H
      obtain ⟨t176, A70, H⟩ := H
      replace H : (bitmap_Pixels.j0 k l0 a1 a2 (!t176)) = some (r1, r2) := H
      have A7 := Aside0.mk A70
      clear A70
      have H' := Aside0.mk H
      clear H
      go_wp2_with (first | (go_at_call 47; (with_reducible refine (bitmap_within.calls a1 1 64 true _ A5.out).mono ?_); rintro e w' ⟨rfl, ⟨nd, rfl⟩⟩; (try first | exact ⟨rfl, _, World.drewN_drewN _ _ _⟩ | exact ⟨rfl, _, Eq.trans (World.drewN_drewN _ _ _) (congrArg (World.drewN _) (Nat.add_assoc _ _ _))⟩)) | (go_at_call 47; (with_reducible refine (bitmap_within.calls a2 1 64 t176 _ A7.out).mono ?_); rintro e w' ⟨rfl, ⟨nd, rfl⟩⟩; (try first | exact ⟨rfl, _, World.drewN_drewN _ _ _⟩ | exact ⟨rfl, _, Eq.trans (World.drewN_drewN _ _ _) (congrArg (World.drewN _) (Nat.add_assoc _ _ _))⟩)))
      repeat (go_quiet (first | (go_at_call 47; (with_reducible refine (bitmap_within.calls a1 1 64 true _ A5.out).mono ?_); rintro e w' ⟨rfl, ⟨nd, rfl⟩⟩; (try first | exact ⟨rfl, _, World.drewN_drewN _ _ _⟩ | exact ⟨rfl, _, Eq.trans (World.drewN_drewN _ _ _) (congrArg (World.drewN _) (Nat.add_assoc _ _ _))⟩)) | (go_at_call 47; (with_reducible refine (bitmap_within.calls a2 1 64 t176 _ A7.out).mono ?_); rintro e w' ⟨rfl, ⟨nd, rfl⟩⟩; (try first | exact ⟨rfl, _, World.drewN_drewN _ _ _⟩ | exact ⟨rfl, _, Eq.trans (World.drewN_drewN _ _ _) (congrArg (World.drewN _) (Nat.add_assoc _ _ _))⟩))); try go_wp2_with (first | (go_at_call 47; (with_reducible refine (bitmap_within.calls a1 1 64 true _ A5.out).mono ?_); rintro e w' ⟨rfl, ⟨nd, rfl⟩⟩; (try first | exact ⟨rfl, _, World.drewN_drewN _ _ _⟩ | exact ⟨rfl, _, Eq.trans (World.drewN_drewN _ _ _) (congrArg (World.drewN _) (Nat.add_assoc _ _ _))⟩)) | (go_at_call 47; (with_reducible refine (bitmap_within.calls a2 1 64 t176 _ A7.out).mono ?_); rintro e w' ⟨rfl, ⟨nd, rfl⟩⟩; (try first | exact ⟨rfl, _, World.drewN_drewN _ _ _⟩ | exact ⟨rfl, _, Eq.trans (World.drewN_drewN _ _ _) (congrArg (World.drewN _) (Nat.add_assoc _ _ _))⟩))))
      go_meet
      case rel => exact ⟨_, (!t176), (by first | rfl | (simp; done) | (simp [*]; done) | (simp; kernel_rfl)), H', ⟨by first | omega | exact Nat.le_refl _⟩, ⟨by (with_reducible repeat (first | apply Kd.V_alloc | apply Kd.V_drewN | apply Kd.V_drew)); exact HO0.out⟩, ⟨by repeat (first | (with_reducible first | exact HB.out | apply below_alloc | apply pw_below_drewN | apply below_drew1) | exact HB.out)⟩⟩
    · replace c6 := Bool.eq_false_iff.mpr c6
      subst c6
      have H1 : (bitmap_Pixels.j0 k l0 a1 a2 true) = some (r1, r2) := by rw [if_neg (show ¬ (false = true) by decide)] at H; exact H
      clear H
      have H := H1
      clear H1
      have H' := Aside0.mk H
      clear H
      go_wp2_with (first | (go_at_call 47; (with_reducible refine (bitmap_within.calls a1 1 64 false _ A5.out).mono ?_); rintro e w' ⟨rfl, ⟨nd, rfl⟩⟩; (try first | exact ⟨rfl, _, World.drewN_drewN _ _ _⟩ | exact ⟨rfl, _, Eq.trans (World.drewN_drewN _ _ _) (congrArg (World.drewN _) (Nat.add_assoc _ _ _))⟩)))
      repeat (go_quiet (first | (go_at_call 47; (with_reducible refine (bitmap_within.calls a1 1 64 false _ A5.out).mono ?_); rintro e w' ⟨rfl, ⟨nd, rfl⟩⟩; (try first | exact ⟨rfl, _, World.drewN_drewN _ _ _⟩ | exact ⟨rfl, _, Eq.trans (World.drewN_drewN _ _ _) (congrArg (World.drewN _) (Nat.add_assoc _ _ _))⟩))); try go_wp2_with (first | (go_at_call 47; (with_reducible refine (bitmap_within.calls a1 1 64 false _ A5.out).mono ?_); rintro e w' ⟨rfl, ⟨nd, rfl⟩⟩; (try first | exact ⟨rfl, _, World.drewN_drewN _ _ _⟩ | exact ⟨rfl, _, Eq.trans (World.drewN_drewN _ _ _) (congrArg (World.drewN _) (Nat.add_assoc _ _ _))⟩))))
      go_meet
      case rel => exact ⟨_, (true), (by first | rfl | (simp; done) | (simp [*]; done) | (simp; kernel_rfl)), H', ⟨by first | omega | exact Nat.le_refl _⟩, ⟨by (with_reducible repeat (first | apply Kd.V_alloc | apply Kd.V_drewN | apply Kd.V_drew)); exact HO0.out⟩, ⟨by repeat (first | (with_reducible first | exact HB.out | apply below_alloc | apply pw_below_drewN | apply below_drew1) | exact HB.out)⟩⟩
  case rest =>
    clear HC4
    try clear c1
    try clear p2
    try clear c6
    obtain ⟨kq, x20_3, rfl, HA, HJ3, HO_0, HB⟩ := hcut
    cases kq with
    | zero => exact absurd HA.out (by simp [bitmap_Pixels.j0])
    | succ kj3 =>
      have H := HA.out
      clear HA
      simp only [bitmap_Pixels.j0] at H
      by_cases c8 : x20_3 = true
      · subst c8
        have H1 : (some (([] : List Int), 1)) = some (r1, r2) := by rw [if_pos rfl] at H; exact H
        clear H
        have H := H1
        clear H1
        simp only [Option.some.injEq, Prod.mk.injEq] at H
        obtain ⟨rfl, rfl⟩ := H
        go_wp2
        repeat (go_quiet (fail); try go_wp2)
        go_ret2
        exact ⟨_, by first | rfl | (simp [errW_none, errW_some] <;> rfl) | (simp [*, errW_none, errW_some] <;> rfl), by first | exact Kd.R_nil _ _ _ _ _ | exact Kd.N_nil _ _ _ _ _ | exact Kd.V_nil _ _ _ _ _ | exact Kd.Q_nil _ _ _ _ _ | exact Kd.S_nil _ _ _ _ _, by repeat (first | (with_reducible first | exact HB.out | apply below_alloc | apply pw_below_drewN | apply below_drew1) | exact HB.out)⟩
      · replace c8 := Bool.eq_false_iff.mpr c8
        subst c8
        have H1 : (bitmap_Pixels.l0 kj3 l0 a1 ([] : List Int) a2 0) = some (r1, r2) := by rw [if_neg (show ¬ (false = true) by decide)] at H; exact H
        clear H
        have H := H1
        clear H1
        have H' := Aside0.mk H
        clear H
        go_wp2
        repeat (go_quiet (fail); try go_wp2)
        go_loopg [0, 8, 22] kj3 (fun kq v0 v8 v22 w' => ∃ (x0_2 : List Int) (x8_2 : List Int) (x22_2 : Int), v22 = .int .i64 x22_2 ∧ Aside0 (bitmap_Pixels.l0 kq x0_2 a1 x8_2 a2 x22_2 = some (r1, r2)) ∧ Aside0 (kq ≤ kj3) ∧ Aside0 (Kd.V (Kd.int .u8) 5 w' w.heap.size (fun k_ => (P0_ k_ ∨ w.heap.size ≤ k_) ∧ some k_ ≠ (v8 : Value).ownBlock) v0 x0_2) ∧ Aside0 (Kd.R (Kd.int .i64) 3 w' w.heap.size (fun k_ => (w.heap.size ≤ k_)) v8 x8_2) ∧ Aside0 (Below w.heap.size w w'))
        case atStart => exact ⟨(l0), (([] : List Int)), (0), (by first | rfl | (simp; done) | (simp [*]; done) | (simp; kernel_rfl)), H', ⟨Nat.le_refl _⟩, ⟨by (with_reducible repeat (first | apply Kd.V_alloc | apply Kd.V_drewN | apply Kd.V_drew)); exact Kd.V_mono HO_0.out (fun _ hk => ⟨hk, (by simp [Value.ownBlock])⟩)⟩, ⟨by first | exact Kd.R_nil _ _ _ _ _ | exact Kd.N_nil _ _ _ _ _ | exact Kd.V_nil _ _ _ _ _ | exact Kd.Q_nil _ _ _ _ _ | exact Kd.S_nil _ _ _ _ _⟩, ⟨by repeat (first | (with_reducible first | exact HB.out | apply below_alloc | apply pw_below_drewN | apply below_drew1) | exact HB.out)⟩⟩
        case round =>
          clear H'
          try clear c1
          try clear p2
          try clear c6
          try clear c8
          try clear p2
          obtain ⟨x0_2, x8_2, x22_2, rfl, HA, HK2, HO_0, HO_8, HB⟩ := hrel
          cases gk with
          | zero => exact absurd HA.out (by simp [bitmap_Pixels.l0])
          | succ k2 =>
            have H := HA.out
            clear HA
            simp only [bitmap_Pixels.l0] at H
            by_cases c9 : x22_2 < a2
            · rw [if_pos c9] at H
              have c9b0 : decide (x22_2 < a2) = true := decide_eq_true c9
              clear c9
              have H' := Aside0.mk H
              clear H
              go_wp2
              repeat (go_quiet (fail); try go_wp2)
              go_loopg [0, 8, 9, 10] k2 (fun kq v0 v8 v9 v10 w' => ∃ (x0_3 : List Int) (x8_3 : List Int) (x9_3 : Int) (x10_3 : Int), v9 = .int .i64 x9_3 ∧ v10 = .int .i64 x10_3 ∧ Aside0 (bitmap_Pixels.l1 kq x0_3 a1 x8_3 x9_3 x10_3 a2 x22_2 = some (r1, r2)) ∧ Aside0 (kq ≤ k2) ∧ Aside0 (Kd.V (Kd.int .u8) 5 w' w.heap.size (fun k_ => (P0_ k_ ∨ w.heap.size ≤ k_) ∧ some k_ ≠ (v8 : Value).ownBlock) v0 x0_3) ∧ Aside0 (Kd.R (Kd.int .i64) 3 w' w.heap.size (fun k_ => (w.heap.size ≤ k_)) v8 x8_3) ∧ Aside0 (Below w.heap.size w w'))
              case atStart => exact ⟨(x0_2), (x8_2), ((-1)), (a1), (by first | rfl | (simp; done) | (simp [*]; done) | (simp; kernel_rfl)), (by first | rfl | (simp; done) | (simp [*]; done) | (simp; kernel_rfl)), H', ⟨Nat.le_refl _⟩, ⟨by (with_reducible repeat (first | apply Kd.V_alloc | apply Kd.V_drewN | apply Kd.V_drew)); exact HO_0.out⟩, ⟨by (with_reducible repeat (first | apply Kd.R_alloc | apply Kd.R_drewN | apply Kd.R_drew)); exact HO_8.out⟩, ⟨by repeat (first | (with_reducible first | exact HB.out | apply below_alloc | apply pw_below_drewN | apply below_drew1) | exact HB.out)⟩⟩
              case round =>
                clear H'
                try clear c1
                try clear p2
                try clear c6
                try clear c8
                try clear c9
                try clear c9b0
                try clear p2
                obtain ⟨x0_3, x8_3, x9_3, x10_3, rfl, rfl, HA, HK3, HO_0, HO_8, HB⟩ := hrel
                cases gk with
                | zero => exact absurd HA.out (by simp [bitmap_Pixels.l1])
                | succ k3 =>
                  have H := HA.out
                  clear HA
                  simp only [bitmap_Pixels.l1] at H
                  by_cases c10 : x10_3 > 0
                  · rw [if_pos c10] at H
                    have c10b0 : decide (0 < x10_3) = true := decide_eq_true c10
                    clear c10
                    by_cases c11 : (x0_3.length : Int) = 0
                    · rw [if_pos c11] at H
                      have c11b0 : ((x0_3.length : Int) == 0) = true := beq_iff_eq.mpr c11
                      have c11b1 : ((x0_3.length : Int) != 0) = false := bne_eq_false_iff_eq.mpr c11
                      clear c11
                      simp only [Option.some.injEq, Prod.mk.injEq] at H
                      obtain ⟨rfl, rfl⟩ := H
                      obtain ⟨Ao12, co12, eo12⟩ := Kd.V_slice HO_0.out
                      subst eo12
                      go_wp2
                      repeat (go_quiet (fail); try go_wp2)
                      go_ret2
                      exact ⟨_, by first | rfl | (simp [errW_none, errW_some] <;> rfl) | (simp [*, errW_none, errW_some] <;> rfl), by first | exact Kd.R_nil _ _ _ _ _ | exact Kd.N_nil _ _ _ _ _ | exact Kd.V_nil _ _ _ _ _ | exact Kd.Q_nil _ _ _ _ _ | exact Kd.S_nil _ _ _ _ _, by repeat (first | (with_reducible first | exact HB.out | apply below_alloc | apply pw_below_drewN | apply below_drew1) | exact HB.out)⟩
                    · rw [if_neg c11] at H
                      have c11b0 : ((x0_3.length : Int) == 0) = false := beq_eq_false_iff_ne.mpr c11
                      have c11b1 : ((x0_3.length : Int) != 0) = true := bne_iff_ne.mpr c11
                      have c11b2 : ¬ (x0_3 = []) := fun h_ => c11 (by rw [h_]; rfl)
                      by_cases c13 : 0 < (x0_3.length : Int)
                      · rw [if_pos c13] at H
                        have c13b0 : decide (0 < (x0_3.length : Int)) = true := decide_eq_true c13
                        have c13b1 : decide (0 < x0_3.length) = true := decide_eq_true (by omega)
                        clear c13
                        by_cases c14 : 1 ≤ (x0_3.length : Int)
                        · rw [if_pos c14] at H
                          have c14b0 := eq_true c14
                          have c14b1 : decide (1 ≤ (x0_3.length : Int)) = true := decide_eq_true c14
                          clear c14
                          obtain ⟨y179, hy179⟩ : ∃ y_ : List Int, y_ = (x0_3.drop 1) := ⟨_, rfl⟩
                          replace H : (if (wrap64 (Go.bits .and .u8 (rd x0_3 0) 15)) = 0 then (if (wrap64 ((rd x0_3 0) / 16)) = x9_3 then (some (([] : List Int), 4)) else ((slices_Repeat_int_int.f (([wrap64 ((rd x0_3 0) / 16)] : List Int)) x10_3).bind fun t187 => (if x8_3.length + t187.length < 17592186044416 then (bitmap_Pixels.l1 k3 y179 a1 (x8_3 ++ t187) (wrap64 ((rd x0_3 0) / 16)) (wrap64 (x10_3 - x10_3)) a2 x22_2) else (none)))) else (if (wrap64 (Go.bits .and .u8 (rd x0_3 0) 15)) = 15 then (if (y179.length : Int) = 0 then (some (([] : List Int), 3)) else (if 0 < (y179.length : Int) then (if 1 ≤ (y179.length : Int) then ((some (y179.drop 1 : List Int)).bind fun y194 => (if (wrap64 ((wrap64 (Go.bits .and .u8 (rd x0_3 0) 15)) + (wrap64 (rd y179 0)))) > 63 then (bitmap_Pixels.j3 k3 y194 a1 x8_3 x9_3 x10_3 (wrap64 ((rd x0_3 0) / 16)) (wrap64 ((wrap64 (Go.bits .and .u8 (rd x0_3 0) 15)) + (wrap64 (rd y179 0)))) a2 x22_2 true) else (bitmap_Pixels.j3 k3 y194 a1 x8_3 x9_3 x10_3 (wrap64 ((rd x0_3 0) / 16)) (wrap64 ((wrap64 (Go.bits .and .u8 (rd x0_3 0) 15)) + (wrap64 (rd y179 0)))) a2 x22_2 (decide ((wrap64 ((wrap64 (Go.bits .and .u8 (rd x0_3 0) 15)) + (wrap64 (rd y179 0)))) ≥ x10_3))))) else (none)) else (none))) else (if (wrap64 (Go.bits .and .u8 (rd x0_3 0) 15)) ≥ x10_3 then (some (([] : List Int), 4)) else (if (wrap64 ((rd x0_3 0) / 16)) = x9_3 then (some (([] : List Int), 4)) else ((slices_Repeat_int_int.f (([wrap64 ((rd x0_3 0) / 16)] : List Int)) (wrap64 (Go.bits .and .u8 (rd x0_3 0) 15))).bind fun t211 => (if x8_3.length + t211.length < 17592186044416 then (bitmap_Pixels.l1 k3 y179 a1 (x8_3 ++ t211) (wrap64 ((rd x0_3 0) / 16)) (wrap64 (x10_3 - (wrap64 (Go.bits .and .u8 (rd x0_3 0) 15)))) a2 x22_2) else (none))))))) = some (r1, r2) := by first | (rw [hy179]; with_reducible exact H) | (have H2_ := (Option.bind_some _ _).symm.trans H; rw [hy179]; with_reducible exact H2_) | (have H2_ := (Option.bind_some _ _).symm.trans H; with_reducible exact H2_) | with_reducible exact H | (rw [hy179]; exact H) | exact H
                          have Ny179 := Aside0.mk hy179
                          clear hy179
                          by_cases c15 : (wrap64 (Go.bits .and .u8 (rd x0_3 0) 15)) = 0
                          · rw [if_pos c15] at H
                            have c15b0 : ((wrap64 (Go.bits .and .u8 (rd x0_3 0) 15)) == 0) = true := beq_iff_eq.mpr c15
                            have c15b1 : ((wrap64 (Go.bits .and .u8 (rd x0_3 0) 15)) != 0) = false := bne_eq_false_iff_eq.mpr c15
                            clear c15
                            by_cases c16 : (wrap64 ((rd x0_3 0) / 16)) = x9_3
                            · rw [if_pos c16] at H
                              have c16b0 : ((wrap64 ((rd x0_3 0) / 16)) == x9_3) = true := beq_iff_eq.mpr c16
                              have c16b1 : ((wrap64 ((rd x0_3 0) / 16)) != x9_3) = false := bne_eq_false_iff_eq.mpr c16
                              clear c16
                              simp only [Option.some.injEq, Prod.mk.injEq] at H
                              obtain ⟨rfl, rfl⟩ := H
                              obtain ⟨Ao17, co17, eo17⟩ := Kd.V_slice HO_0.out
                              subst eo17
                              have p177 : 0 ≤ (0 : Int) := (by omega)
                              have q177 : 0 < (x0_3.length : Int) := of_decide_eq_true (by first | (with_reducible assumption) | assumption)
                              obtain ⟨ad177, e177, hx177_0⟩ := Kd.at_int (Kd.V_reads' HO_0.out).2.2 0 p177 q177
                              cases e177
                              have qi177 : (0 < x0_3.length) = True := eq_true (by omega)
                              (try rw [show ((0 : Int)).toNat = 0 from rfl] at hx177_0)
                              (try rw [Addr.add_zero'] at hx177_0)
                              replace p177 := eq_true p177
                              replace q177 := eq_true q177
                              have p178 : 0 ≤ (0 : Int) := (by omega)
                              have q178 : 0 < (x0_3.length : Int) := of_decide_eq_true (by first | (with_reducible assumption) | assumption)
                              obtain ⟨ad178, e178, hx178_0⟩ := Kd.at_int (Kd.V_reads' HO_0.out).2.2 0 p178 q178
                              obtain rfl : ad177 = ad178 := (by injection e178)
                              have qi178 : (0 < x0_3.length) = True := eq_true (by omega)
                              (try rw [show ((0 : Int)).toNat = 0 from rfl] at hx178_0)
                              (try rw [Addr.add_zero'] at hx178_0)
                              replace p178 := eq_true p178
                              replace q178 := eq_true q178
                              have q18 : (1 : Int) ≤ ((x0_3.length : Int) : Int) := of_decide_eq_true (by first | (with_reducible assumption) | assumption)
                              obtain ⟨i018, hi018, _, hsz18, _⟩ := info_parts info5
                              have hroom18 : x0_3.length ≤ co17 := (Kd.V_reads' HO_0.out).2.1
                              have hC18 : Kd.F (Kd.int .u8) _ _ (some ad177) x0_3.length x0_3 := (Kd.V_at (base := w.heap.size) HO_0.out).2.2
                              have hcut18 := cut_from (P := Try.prog) 23 5 .i64 Try.underlying23 hi018 1 hsz18 (some ad177) x0_3.length co17 1 (by omega) q18
                              have hr18 := Kd.F_cut (m := (1 : Int).toNat) (c := co17) hC18 (by omega) hroom18
                              obtain ⟨A18, hA18⟩ : ∃ A1, A1 = (if co17 = (1 : Int).toNat then (some ad177) else ((some ad177) : Option Addr).map (·.add ((1 : Int).toNat * 1))) := ⟨_, rfl⟩
                              obtain ⟨c18, hc18⟩ : ∃ c1, c1 = co17 - (1 : Int).toNat := ⟨_, rfl⟩
                              have hy18 : y179.length = x0_3.length - (1 : Int).toNat := (by rw [Ny179.out, List.length_drop] <;> omega)
                              rw [show (x0_3).drop (1 : Int).toNat = y179 from Ny179.out.symm] at hr18
                              replace hr18 : Kd.F (Kd.int .u8) _ _ A18 y179.length y179 := (by rw [hA18]; exact hr18)
                              rw [← hy18, ← hA18, ← hc18] at hcut18
                              have HO183 := Aside0.mk (show Kd.V (Kd.int .u8) 5 _ w.heap.size _ (.slice A18 y179.length c18) y179 from Kd.V_mk (by rw [hy18, hc18]; exact Nat.sub_le_sub_right hroom18 _) hr18)
                              have HC183 := Aside0.mk (show y179.length ≤ c18 from by rw [hy18, hc18]; exact Nat.sub_le_sub_right hroom18 _)
                              clear hr18 hC18 hroom18 hi018 hsz18 hc18
                              have KY18 := Aside0.mk hy18
                              have KA18 := Aside0.mk hA18
                              clear hy18 hA18
                              replace q18 := eq_true q18
                              go_wp2
                              repeat (go_quiet (fail); try go_wp2)
                              go_ret2
                              exact ⟨_, by first | rfl | (simp [errW_none, errW_some] <;> rfl) | (simp [*, errW_none, errW_some] <;> rfl), by first | exact Kd.R_nil _ _ _ _ _ | exact Kd.N_nil _ _ _ _ _ | exact Kd.V_nil _ _ _ _ _ | exact Kd.Q_nil _ _ _ _ _ | exact Kd.S_nil _ _ _ _ _, by repeat (first | (with_reducible first | exact HB.out | apply below_alloc | apply pw_below_drewN | apply below_drew1) | exact HB.out)⟩
                            · rw [if_neg c16] at H
                              have c16b0 : ((wrap64 ((rd x0_3 0) / 16)) == x9_3) = false := beq_eq_false_iff_ne.mpr c16
                              have c16b1 : ((wrap64 ((rd x0_3 0) / 16)) != x9_3) = true := bne_iff_ne.mpr c16
                              obtain ⟨y184, hy184⟩ : ∃ y_ : List Int, y_ = (([wrap64 ((rd x0_3 0) / 16)] : List Int)) := ⟨_, rfl⟩
                              replace H : ((slices_Repeat_int_int.f y184 x10_3).bind fun t187 => (if x8_3.length + t187.length < 17592186044416 then (bitmap_Pixels.l1 k3 y179 a1 (x8_3 ++ t187) (wrap64 ((rd x0_3 0) / 16)) (wrap64 (x10_3 - x10_3)) a2 x22_2) else (none))) = some (r1, r2) := by first | (rw [hy184]; with_reducible exact H) | (have H2_ := (Option.bind_some _ _).symm.trans H; rw [hy184]; with_reducible exact H2_) | (have H2_ := (Option.bind_some _ _).symm.trans H; with_reducible exact H2_) | with_reducible exact H | (rw [hy184]; exact H) | exact H
                              have Ny184 := Aside0.mk hy184
                              clear hy184
                              replace H := Option.bind_eq_some_iff.mp H
                              obtain ⟨t187, A190, H⟩ := H
                              replace H : (if x8_3.length + t187.length < 17592186044416 then (bitmap_Pixels.l1 k3 y179 a1 (x8_3 ++ t187) (wrap64 ((rd x0_3 0) / 16)) (wrap64 (x10_3 - x10_3)) a2 x22_2) else (none)) = some (r1, r2) := H
                              have A19 := Aside0.mk A190
                              clear A190
                              by_cases c20 : x8_3.length + t187.length < 17592186044416
                              · rw [if_pos c20] at H
                                have LMc20 := Aside0.mk c20
                                clear c20
                                obtain ⟨y190, hy190⟩ : ∃ y_ : List Int, y_ = (x8_3 ++ t187) := ⟨_, rfl⟩
                                replace H : (bitmap_Pixels.l1 k3 y179 a1 y190 (wrap64 ((rd x0_3 0) / 16)) (wrap64 (x10_3 - x10_3)) a2 x22_2) = some (r1, r2) := by first | (rw [hy190]; with_reducible exact H) | (have H2_ := (Option.bind_some _ _).symm.trans H; rw [hy190]; with_reducible exact H2_) | (have H2_ := (Option.bind_some _ _).symm.trans H; with_reducible exact H2_) | with_reducible exact H | (rw [hy190]; exact H) | exact H
                                have Ny190 := Aside0.mk hy190
                                clear hy190
                                have H' := Aside0.mk H
                                clear H
                                obtain ⟨Ao21, co21, eo21⟩ := Kd.V_slice HO_0.out
                                subst eo21
                                have p177 : 0 ≤ (0 : Int) := (by omega)
                                have q177 : 0 < (x0_3.length : Int) := of_decide_eq_true (by first | (with_reducible assumption) | assumption)
                                obtain ⟨ad177, e177, hx177_0⟩ := Kd.at_int (Kd.V_reads' HO_0.out).2.2 0 p177 q177
                                cases e177
                                have qi177 : (0 < x0_3.length) = True := eq_true (by omega)
                                (try rw [show ((0 : Int)).toNat = 0 from rfl] at hx177_0)
                                (try rw [Addr.add_zero'] at hx177_0)
                                replace p177 := eq_true p177
                                replace q177 := eq_true q177
                                have p178 : 0 ≤ (0 : Int) := (by omega)
                                have q178 : 0 < (x0_3.length : Int) := of_decide_eq_true (by first | (with_reducible assumption) | assumption)
                                obtain ⟨ad178, e178, hx178_0⟩ := Kd.at_int (Kd.V_reads' HO_0.out).2.2 0 p178 q178
                                obtain rfl : ad177 = ad178 := (by injection e178)
                                have qi178 : (0 < x0_3.length) = True := eq_true (by omega)
                                (try rw [show ((0 : Int)).toNat = 0 from rfl] at hx178_0)
                                (try rw [Addr.add_zero'] at hx178_0)
                                replace p178 := eq_true p178
                                replace q178 := eq_true q178
                                have q22 : (1 : Int) ≤ ((x0_3.length : Int) : Int) := of_decide_eq_true (by first | (with_reducible assumption) | assumption)
                                obtain ⟨i022, hi022, _, hsz22, _⟩ := info_parts info5
                                have hroom22 : x0_3.length ≤ co21 := (Kd.V_reads' HO_0.out).2.1
                                have hC22 : Kd.F (Kd.int .u8) _ _ (some ad177) x0_3.length x0_3 := (Kd.V_at (base := w.heap.size) HO_0.out).2.2
                                have hcut22 := cut_from (P := Try.prog) 23 5 .i64 Try.underlying23 hi022 1 hsz22 (some ad177) x0_3.length co21 1 (by omega) q22
                                have hr22 := Kd.F_cut (m := (1 : Int).toNat) (c := co21) hC22 (by omega) hroom22
                                obtain ⟨A22, hA22⟩ : ∃ A1, A1 = (if co21 = (1 : Int).toNat then (some ad177) else ((some ad177) : Option Addr).map (·.add ((1 : Int).toNat * 1))) := ⟨_, rfl⟩
                                obtain ⟨c22, hc22⟩ : ∃ c1, c1 = co21 - (1 : Int).toNat := ⟨_, rfl⟩
                                have hy22 : y179.length = x0_3.length - (1 : Int).toNat := (by rw [Ny179.out, List.length_drop] <;> omega)
                                rw [show (x0_3).drop (1 : Int).toNat = y179 from Ny179.out.symm] at hr22
                                replace hr22 : Kd.F (Kd.int .u8) _ _ A22 y179.length y179 := (by rw [hA22]; exact hr22)
                                rw [← hy22, ← hA22, ← hc22] at hcut22
                                have HO183 := Aside0.mk (show Kd.V (Kd.int .u8) 5 _ w.heap.size _ (.slice A22 y179.length c22) y179 from Kd.V_mk (by rw [hy22, hc22]; exact Nat.sub_le_sub_right hroom22 _) hr22)
                                have HC183 := Aside0.mk (show y179.length ≤ c22 from by rw [hy22, hc22]; exact Nat.sub_le_sub_right hroom22 _)
                                clear hr22 hC22 hroom22 hi022 hsz22 hc22
                                have KY22 := Aside0.mk hy22
                                have KA22 := Aside0.mk hA22
                                clear hy22 hA22
                                replace q22 := eq_true q22
                                go_wp2_with (first | ((with_reducible refine gate_dst (N := 76) rfl ?_); refine Kd.R_lit (Kd.int .i64) _ 3 ?hg (N := 76) ?hd (xs := ([wrap64 ((rd x0_3 0) / 16)] : List Int)) (inner := [.int .i64 (wrap64 ((rd x0_3 0) / 16))]) (ok := fun _ => True) (okp := fun _ => True) ?hr ?hp (fun _ hk => hk) trivial (Below.refl _ _) (Nat.le_refl _) (by simp) ?_; (case hd => rfl); (case hg => rfl); (case hr => first | (go_simp; done) | (go_simp; rfl)); (case hp => exact (Reps.one (show Kd.M (Kd.int .i64) _ _ _ (wrap64 ((rd x0_3 0) / 16)) [.int .i64 (wrap64 ((rd x0_3 0) / 16))] from rfl) (Reps.none _ _))); intro v185 w23 ho24 hb hg_ hnew_; clear hg_ hnew_; (first | rw [← Ny184.out] at ho24 | (simp only [Int.reduceToNat] at ho24; rw [← Ny184.out] at ho24)); have n0_ := Aside0.mk (Kd.V_elder' (by (with_reducible repeat (first | apply Kd.V_alloc | apply Kd.V_drewN | apply Kd.V_drew)); exact HO_0.out) (Kd.R_base ho24) hb); have n1_ := Aside0.mk (Kd.R_elder' (by (with_reducible repeat (first | apply Kd.R_alloc | apply Kd.R_drewN | apply Kd.R_drew)); exact HO_8.out) (Kd.R_base ho24) hb); have n2_ := Aside0.mk (Kd.V_elder' (by (with_reducible repeat (first | apply Kd.V_alloc | apply Kd.V_drewN | apply Kd.V_drew)); exact HO183.out) (Kd.R_base ho24) hb); have n3_ := Aside0.mk (Kd.R_lower (Kd.R_new' (Kd.R_newM (M := fun k_ => (w.heap.size ≤ k_)) ho24 (below_size (by repeat (first | (with_reducible first | exact HB.out | apply below_alloc | apply pw_below_drewN | apply below_drew1) | exact HB.out))) (fun k_ h_ => h_)) (Kd.R_lt (by (with_reducible repeat (first | apply Kd.R_alloc | apply Kd.R_drewN | apply Kd.R_drew)); exact HO_8.out))) (below_size (by repeat (first | (with_reducible first | exact HB.out | apply below_alloc | apply pw_below_drewN | apply below_drew1) | exact HB.out)))); have n4_ := Aside0.mk (below_step (by repeat (first | (with_reducible first | exact HB.out | apply below_alloc | apply pw_below_drewN | apply below_drew1) | exact HB.out)) hb); clear HO_0; clear HO_8; clear HO183; clear HB; have HO_0 := n0_; have HO_8 := n1_; have HO183 := n2_; have HO186 := n3_; have HB := n4_; clear n0_ n1_ n2_ n3_ n4_; clear hb ho24; obtain ⟨Ao25, co25, eo25⟩ := Kd.R_slice HO186.out; subst eo25) | (go_at_call 53; (with_reducible refine (slices_Repeat_int_int.calls _ _ y184 x10_3 t187 _ ?side1 ?side2 A19.out).mono ?_); (case side1 => repeat (first | exact (Kd.R_reads' HO186.out).2.2 | (with_reducible refine Kd.C_alloc ?_ _) | (with_reducible refine Kd.C_drewN ?_ _) | (with_reducible refine Kd.C_drew ?_))); (case side2 => exact (Kd.R_reads' HO186.out).2.1); rintro e w26 ⟨v188, rfl, ho0, hb⟩; have n0_ := Aside0.mk (Kd.V_elder' (by (with_reducible repeat (first | apply Kd.V_alloc | apply Kd.V_drewN | apply Kd.V_drew)); exact HO_0.out) (Kd.R_base ho0) hb); have n1_ := Aside0.mk (Kd.R_elder' (by (with_reducible repeat (first | apply Kd.R_alloc | apply Kd.R_drewN | apply Kd.R_drew)); exact HO_8.out) (Kd.R_base ho0) hb); have n2_ := Aside0.mk (Kd.V_elder' (by (with_reducible repeat (first | apply Kd.V_alloc | apply Kd.V_drewN | apply Kd.V_drew)); exact HO183.out) (Kd.R_base ho0) hb); have n3_ := Aside0.mk (Kd.R_elder' (by (with_reducible repeat (first | apply Kd.R_alloc | apply Kd.R_drewN | apply Kd.R_drew)); exact HO186.out) (Kd.R_base ho0) hb); have n4_ := Aside0.mk (Kd.R_lower (Kd.R_new' (Kd.R_new' (Kd.R_newM (M := fun k_ => (w.heap.size ≤ k_)) ho0 (below_size (by repeat (first | (with_reducible first | exact HB.out | apply below_alloc | apply pw_below_drewN | apply below_drew1) | exact HB.out))) (fun k_ h_ => h_)) (Kd.R_lt (by (with_reducible repeat (first | apply Kd.R_alloc | apply Kd.R_drewN | apply Kd.R_drew)); exact HO_8.out))) (Kd.R_lt (by (with_reducible repeat (first | apply Kd.R_alloc | apply Kd.R_drewN | apply Kd.R_drew)); exact HO186.out))) (below_size (by repeat (first | (with_reducible first | exact HB.out | apply below_alloc | apply pw_below_drewN | apply below_drew1) | exact HB.out)))); have n5_ := Aside0.mk (below_step (by repeat (first | (with_reducible first | exact HB.out | apply below_alloc | apply pw_below_drewN | apply below_drew1) | exact HB.out)) hb); clear HO_0; clear HO_8; clear HO183; clear HO186; clear HB; have HO_0 := n0_; have HO_8 := n1_; have HO183 := n2_; have HO186 := n3_; have HO189 := n4_; have HB := n5_; clear n0_ n1_ n2_ n3_ n4_ n5_; (try clear hb); (try clear hb2); (try clear hk); (try clear hi); (try clear ho0); obtain ⟨Ao28, co28, eo28⟩ := Kd.R_slice HO189.out; subst eo28) | ((with_reducible refine gate_builtin (b := .append) (xs := #[.tmp 74, .tmp 78]) rfl ?_); at_builtin; refine Kd.R_append_rows (Kd.int .i64) (w0 := w) w.heap.size rfl (.tmp 74) (.tmp 78) 22 3 (.int .i64 0) 8 rfl Try.underlying22 info3 rfl (by decide) (by omega) u8 x8_3 t187 _ _ _ (fun k_ => (w.heap.size ≤ k_) ∧ some k_ ≠ (.slice Ao25 y184.length co25 : Value).ownBlock) (fun _ => False) rfl rfl ?aO ?aR (fun _ _ h => h) (fun _ h => h.elim) ?aF ?aB ?aS ?aL ?_; (case aR => repeat (first | exact (Kd.R_reads' HO189.out).2.2 | (with_reducible refine Kd.C_alloc ?_ _) | (with_reducible refine Kd.C_drewN ?_ _) | (with_reducible refine Kd.C_drew ?_))); (case aB => exact (by repeat (first | (with_reducible first | exact HB.out | apply below_alloc | apply pw_below_drewN | apply below_drew1) | exact HB.out))); (case aF => exact (fun k_ hk => ⟨(Nat.le_trans (below_size (by repeat (first | (with_reducible first | exact HB.out | apply below_alloc | apply pw_below_drewN | apply below_drew1) | exact HB.out))) hk), Kd.fresh' (Kd.R_lt (by (with_reducible repeat (first | apply Kd.R_alloc | apply Kd.R_drewN | apply Kd.R_drew)); exact HO186.out)) k_ hk⟩)); (case aO => exact (by (with_reducible repeat (first | apply Kd.R_alloc | apply Kd.R_drewN | apply Kd.R_drew)); exact Kd.R_mono HO_8.out (fun _ hk => ⟨hk.1.1, hk.1.2⟩))); (case aS => exact (below_size (by repeat (first | (with_reducible first | exact HB.out | apply below_alloc | apply pw_below_drewN | apply below_drew1) | exact HB.out)))); (case aL => have := LMc20.out; omega); intro v191 w27 ho hb hg hat; rw [← Ny190.out] at ho; have n0_ := Aside0.mk (Kd.V_afterv (ok := (fun k_ => (P0_ k_ ∨ w.heap.size ≤ k_) ∧ some k_ ≠ (.slice Ao25 y184.length co25 : Value).ownBlock ∧ some k_ ≠ (.slice Ao28 t187.length co28 : Value).ownBlock)) (by (with_reducible repeat (first | apply Kd.V_alloc | apply Kd.V_drewN | apply Kd.V_drew)); exact Kd.V_mono HO_0.out (fun _ hk => ⟨⟨hk.1.1.1, ⟨hk.1.2, hk.2⟩⟩, hk.1.1.2⟩)) hg hat); have n1_ := Aside0.mk (Kd.V_afterv (ok := (fun k_ => (P0_ k_ ∨ w.heap.size ≤ k_) ∧ some k_ ≠ (.slice Ao25 y184.length co25 : Value).ownBlock ∧ some k_ ≠ (.slice Ao28 t187.length co28 : Value).ownBlock)) (by (with_reducible repeat (first | apply Kd.V_alloc | apply Kd.V_drewN | apply Kd.V_drew)); exact Kd.V_mono HO183.out (fun _ hk => ⟨⟨hk.1.1.1, ⟨hk.1.2, hk.2⟩⟩, hk.1.1.2⟩)) hg hat); have n2_ := Aside0.mk (Kd.R_after (ok := (fun k_ => (w.heap.size ≤ k_) ∧ some k_ ≠ (.slice Ao28 t187.length co28 : Value).ownBlock)) (by (with_reducible repeat (first | apply Kd.R_alloc | apply Kd.R_drewN | apply Kd.R_drew)); exact Kd.R_mono HO186.out (fun _ hk => ⟨⟨hk.1.1.1, hk.2⟩, hk.1.2⟩)) hg hat); have n3_ := Aside0.mk (hb); have n4_ := Aside0.mk (ho); clear HO_0; clear HO183; clear HO186; clear HB; clear HO_8; clear HO189; have HO_0 := n0_; have HO183 := n1_; have HO186 := n2_; have HB := n3_; have HO192 := n4_; clear n0_ n1_ n2_ n3_ n4_; clear ho hb hg hat))
                                repeat (go_quiet (first | ((with_reducible refine gate_dst (N := 76) rfl ?_); refine Kd.R_lit (Kd.int .i64) _ 3 ?hg (N := 76) ?hd (xs := ([wrap64 ((rd x0_3 0) / 16)] : List Int)) (inner := [.int .i64 (wrap64 ((rd x0_3 0) / 16))]) (ok := fun _ => True) (okp := fun _ => True) ?hr ?hp (fun _ hk => hk) trivial (Below.refl _ _) (Nat.le_refl _) (by simp) ?_; (case hd => rfl); (case hg => rfl); (case hr => first | (go_simp; done) | (go_simp; rfl)); (case hp => exact (Reps.one (show Kd.M (Kd.int .i64) _ _ _ (wrap64 ((rd x0_3 0) / 16)) [.int .i64 (wrap64 ((rd x0_3 0) / 16))] from rfl) (Reps.none _ _))); intro v185 w23 ho24 hb hg_ hnew_; clear hg_ hnew_; (first | rw [← Ny184.out] at ho24 | (simp only [Int.reduceToNat] at ho24; rw [← Ny184.out] at ho24)); have n0_ := Aside0.mk (Kd.V_elder' (by (with_reducible repeat (first | apply Kd.V_alloc | apply Kd.V_drewN | apply Kd.V_drew)); exact HO_0.out) (Kd.R_base ho24) hb); have n1_ := Aside0.mk (Kd.R_elder' (by (with_reducible repeat (first | apply Kd.R_alloc | apply Kd.R_drewN | apply Kd.R_drew)); exact HO_8.out) (Kd.R_base ho24) hb); have n2_ := Aside0.mk (Kd.V_elder' (by (with_reducible repeat (first | apply Kd.V_alloc | apply Kd.V_drewN | apply Kd.V_drew)); exact HO183.out) (Kd.R_base ho24) hb); have n3_ := Aside0.mk (Kd.R_lower (Kd.R_new' (Kd.R_newM (M := fun k_ => (w.heap.size ≤ k_)) ho24 (below_size (by repeat (first | (with_reducible first | exact HB.out | apply below_alloc | apply pw_below_drewN | apply below_drew1) | exact HB.out))) (fun k_ h_ => h_)) (Kd.R_lt (by (with_reducible repeat (first | apply Kd.R_alloc | apply Kd.R_drewN | apply Kd.R_drew)); exact HO_8.out))) (below_size (by repeat (first | (with_reducible first | exact HB.out | apply below_alloc | apply pw_below_drewN | apply below_drew1) | exact HB.out)))); have n4_ := Aside0.mk (below_step (by repeat (first | (with_reducible first | exact HB.out | apply below_alloc | apply pw_below_drewN | apply below_drew1) | exact HB.out)) hb); clear HO_0; clear HO_8; clear HO183; clear HB; have HO_0 := n0_; have HO_8 := n1_; have HO183 := n2_; have HO186 := n3_; have HB := n4_; clear n0_ n1_ n2_ n3_ n4_; clear hb ho24; obtain ⟨Ao25, co25, eo25⟩ := Kd.R_slice HO186.out; subst eo25) | (go_at_call 53; (with_reducible refine (slices_Repeat_int_int.calls _ _ y184 x10_3 t187 _ ?side1 ?side2 A19.out).mono ?_); (case side1 => repeat (first | exact (Kd.R_reads' HO186.out).2.2 | (with_reducible refine Kd.C_alloc ?_ _) | (with_reducible refine Kd.C_drewN ?_ _) | (with_reducible refine Kd.C_drew ?_))); (case side2 => exact (Kd.R_reads' HO186.out).2.1); rintro e w26 ⟨v188, rfl, ho0, hb⟩; have n0_ := Aside0.mk (Kd.V_elder' (by (with_reducible repeat (first | apply Kd.V_alloc | apply Kd.V_drewN | apply Kd.V_drew)); exact HO_0.out) (Kd.R_base ho0) hb); have n1_ := Aside0.mk (Kd.R_elder' (by (with_reducible repeat (first | apply Kd.R_alloc | apply Kd.R_drewN | apply Kd.R_drew)); exact HO_8.out) (Kd.R_base ho0) hb); have n2_ := Aside0.mk (Kd.V_elder' (by (with_reducible repeat (first | apply Kd.V_alloc | apply Kd.V_drewN | apply Kd.V_drew)); exact HO183.out) (Kd.R_base ho0) hb); have n3_ := Aside0.mk (Kd.R_elder' (by (with_reducible repeat (first | apply Kd.R_alloc | apply Kd.R_drewN | apply Kd.R_drew)); exact HO186.out) (Kd.R_base ho0) hb); have n4_ := Aside0.mk (Kd.R_lower (Kd.R_new' (Kd.R_new' (Kd.R_newM (M := fun k_ => (w.heap.size ≤ k_)) ho0 (below_size (by repeat (first | (with_reducible first | exact HB.out | apply below_alloc | apply pw_below_drewN | apply below_drew1) | exact HB.out))) (fun k_ h_ => h_)) (Kd.R_lt (by (with_reducible repeat (first | apply Kd.R_alloc | apply Kd.R_drewN | apply Kd.R_drew)); exact HO_8.out))) (Kd.R_lt (by (with_reducible repeat (first | apply Kd.R_alloc | apply Kd.R_drewN | apply Kd.R_drew)); exact HO186.out))) (below_size (by repeat (first | (with_reducible first | exact HB.out | apply below_alloc | apply pw_below_drewN | apply below_drew1) | exact HB.out)))); have n5_ := Aside0.mk (below_step (by repeat (first | (with_reducible first | exact HB.out | apply below_alloc | apply pw_below_drewN | apply below_drew1) | exact HB.out)) hb); clear HO_0; clear HO_8; clear HO183; clear HO186; clear HB; have HO_0 := n0_; have HO_8 := n1_; have HO183 := n2_; have HO186 := n3_; have HO189 := n4_; have HB := n5_; clear n0_ n1_ n2_ n3_ n4_ n5_; (try clear hb); (try clear hb2); (try clear hk); (try clear hi); (try clear ho0); obtain ⟨Ao28, co28, eo28⟩ := Kd.R_slice HO189.out; subst eo28) | ((with_reducible refine gate_builtin (b := .append) (xs := #[.tmp 74, .tmp 78]) rfl ?_); at_builtin; refine Kd.R_append_rows (Kd.int .i64) (w0 := w) w.heap.size rfl (.tmp 74) (.tmp 78) 22 3 (.int .i64 0) 8 rfl Try.underlying22 info3 rfl (by decide) (by omega) u8 x8_3 t187 _ _ _ (fun k_ => (w.heap.size ≤ k_) ∧ some k_ ≠ (.slice Ao25 y184.length co25 : Value).ownBlock) (fun _ => False) rfl rfl ?aO ?aR (fun _ _ h => h) (fun _ h => h.elim) ?aF ?aB ?aS ?aL ?_; (case aR => repeat (first | exact (Kd.R_reads' HO189.out).2.2 | (with_reducible refine Kd.C_alloc ?_ _) | (with_reducible refine Kd.C_drewN ?_ _) | (with_reducible refine Kd.C_drew ?_))); (case aB => exact (by repeat (first | (with_reducible first | exact HB.out | apply below_alloc | apply pw_below_drewN | apply below_drew1) | exact HB.out))); (case aF => exact (fun k_ hk => ⟨(Nat.le_trans (below_size (by repeat (first | (with_reducible first | exact HB.out | apply below_alloc | apply pw_below_drewN | apply below_drew1) | exact HB.out))) hk), Kd.fresh' (Kd.R_lt (by (with_reducible repeat (first | apply Kd.R_alloc | apply Kd.R_drewN | apply Kd.R_drew)); exact HO186.out)) k_ hk⟩)); (case aO => exact (by (with_reducible repeat (first | apply Kd.R_alloc | apply Kd.R_drewN | apply Kd.R_drew)); exact Kd.R_mono HO_8.out (fun _ hk => ⟨hk.1.1, hk.1.2⟩))); (case aS => exact (below_size (by repeat (first | (with_reducible first | exact HB.out | apply below_alloc | apply pw_below_drewN | apply below_drew1) | exact HB.out)))); (case aL => have := LMc20.out; omega); intro v191 w27 ho hb hg hat; rw [← Ny190.out] at ho; have n0_ := Aside0.mk (Kd.V_afterv (ok := (fun k_ => (P0_ k_ ∨ w.heap.size ≤ k_) ∧ some k_ ≠ (.slice Ao25 y184.length co25 : Value).ownBlock ∧ some k_ ≠ (.slice Ao28 t187.length co28 : Value).ownBlock)) (by (with_reducible repeat (first | apply Kd.V_alloc | apply Kd.V_drewN | apply Kd.V_drew)); exact Kd.V_mono HO_0.out (fun _ hk => ⟨⟨hk.1.1.1, ⟨hk.1.2, hk.2⟩⟩, hk.1.1.2⟩)) hg hat); have n1_ := Aside0.mk (Kd.V_afterv (ok := (fun k_ => (P0_ k_ ∨ w.heap.size ≤ k_) ∧ some k_ ≠ (.slice Ao25 y184.length co25 : Value).ownBlock ∧ some k_ ≠ (.slice Ao28 t187.length co28 : Value).ownBlock)) (by (with_reducible repeat (first | apply Kd.V_alloc | apply Kd.V_drewN | apply Kd.V_drew)); exact Kd.V_mono HO183.out (fun _ hk => ⟨⟨hk.1.1.1, ⟨hk.1.2, hk.2⟩⟩, hk.1.1.2⟩)) hg hat); have n2_ := Aside0.mk (Kd.R_after (ok := (fun k_ => (w.heap.size ≤ k_) ∧ some k_ ≠ (.slice Ao28 t187.length co28 : Value).ownBlock)) (by (with_reducible repeat (first | apply Kd.R_alloc | apply Kd.R_drewN | apply Kd.R_drew)); exact Kd.R_mono HO186.out (fun _ hk => ⟨⟨hk.1.1.1, hk.2⟩, hk.1.2⟩)) hg hat); have n3_ := Aside0.mk (hb); have n4_ := Aside0.mk (ho); clear HO_0; clear HO183; clear HO186; clear HB; clear HO_8; clear HO189; have HO_0 := n0_; have HO183 := n1_; have HO186 := n2_; have HB := n3_; have HO192 := n4_; clear n0_ n1_ n2_ n3_ n4_; clear ho hb hg hat)); try go_wp2_with (first | ((with_reducible refine gate_dst (N := 76) rfl ?_); refine Kd.R_lit (Kd.int .i64) _ 3 ?hg (N := 76) ?hd (xs := ([wrap64 ((rd x0_3 0) / 16)] : List Int)) (inner := [.int .i64 (wrap64 ((rd x0_3 0) / 16))]) (ok := fun _ => True) (okp := fun _ => True) ?hr ?hp (fun _ hk => hk) trivial (Below.refl _ _) (Nat.le_refl _) (by simp) ?_; (case hd => rfl); (case hg => rfl); (case hr => first | (go_simp; done) | (go_simp; rfl)); (case hp => exact (Reps.one (show Kd.M (Kd.int .i64) _ _ _ (wrap64 ((rd x0_3 0) / 16)) [.int .i64 (wrap64 ((rd x0_3 0) / 16))] from rfl) (Reps.none _ _))); intro v185 w23 ho24 hb hg_ hnew_; clear hg_ hnew_; (first | rw [← Ny184.out] at ho24 | (simp only [Int.reduceToNat] at ho24; rw [← Ny184.out] at ho24)); have n0_ := Aside0.mk (Kd.V_elder' (by (with_reducible repeat (first | apply Kd.V_alloc | apply Kd.V_drewN | apply Kd.V_drew)); exact HO_0.out) (Kd.R_base ho24) hb); have n1_ := Aside0.mk (Kd.R_elder' (by (with_reducible repeat (first | apply Kd.R_alloc | apply Kd.R_drewN | apply Kd.R_drew)); exact HO_8.out) (Kd.R_base ho24) hb); have n2_ := Aside0.mk (Kd.V_elder' (by (with_reducible repeat (first | apply Kd.V_alloc | apply Kd.V_drewN | apply Kd.V_drew)); exact HO183.out) (Kd.R_base ho24) hb); have n3_ := Aside0.mk (Kd.R_lower (Kd.R_new' (Kd.R_newM (M := fun k_ => (w.heap.size ≤ k_)) ho24 (below_size (by repeat (first | (with_reducible first | exact HB.out | apply below_alloc | apply pw_below_drewN | apply below_drew1) | exact HB.out))) (fun k_ h_ => h_)) (Kd.R_lt (by (with_reducible repeat (first | apply Kd.R_alloc | apply Kd.R_drewN | apply Kd.R_drew)); exact HO_8.out))) (below_size (by repeat (first | (with_reducible first | exact HB.out | apply below_alloc | apply pw_below_drewN | apply below_drew1) | exact HB.out)))); have n4_ := Aside0.mk (below_step (by repeat (first | (with_reducible first | exact HB.out | apply below_alloc | apply pw_below_drewN | apply below_drew1) | exact HB.out)) hb); clear HO_0; clear HO_8; clear HO183; clear HB; have HO_0 := n0_; have HO_8 := n1_; have HO183 := n2_; have HO186 := n3_; have HB := n4_; clear n0_ n1_ n2_ n3_ n4_; clear hb ho24; obtain ⟨Ao25, co25, eo25⟩ := Kd.R_slice HO186.out; subst eo25) | (go_at_call 53; (with_reducible refine (slices_Repeat_int_int.calls _ _ y184 x10_3 t187 _ ?side1 ?side2 A19.out).mono ?_); (case side1 => repeat (first | exact (Kd.R_reads' HO186.out).2.2 | (with_reducible refine Kd.C_alloc ?_ _) | (with_reducible refine Kd.C_drewN ?_ _) | (with_reducible refine Kd.C_drew ?_))); (case side2 => exact (Kd.R_reads' HO186.out).2.1); rintro e w26 ⟨v188, rfl, ho0, hb⟩; have n0_ := Aside0.mk (Kd.V_elder' (by (with_reducible repeat (first | apply Kd.V_alloc | apply Kd.V_drewN | apply Kd.V_drew)); exact HO_0.out) (Kd.R_base ho0) hb); have n1_ := Aside0.mk (Kd.R_elder' (by (with_reducible repeat (first | apply Kd.R_alloc | apply Kd.R_drewN | apply Kd.R_drew)); exact HO_8.out) (Kd.R_base ho0) hb); have n2_ := Aside0.mk (Kd.V_elder' (by (with_reducible repeat (first | apply Kd.V_alloc | apply Kd.V_drewN | apply Kd.V_drew)); exact HO183.out) (Kd.R_base ho0) hb); have n3_ := Aside0.mk (Kd.R_elder' (by (with_reducible repeat (first | apply Kd.R_alloc | apply Kd.R_drewN | apply Kd.R_drew)); exact HO186.out) (Kd.R_base ho0) hb); have n4_ := Aside0.mk (Kd.R_lower (Kd.R_new' (Kd.R_new' (Kd.R_newM (M := fun k_ => (w.heap.size ≤ k_)) ho0 (below_size (by repeat (first | (with_reducible first | exact HB.out | apply below_alloc | apply pw_below_drewN | apply below_drew1) | exact HB.out))) (fun k_ h_ => h_)) (Kd.R_lt (by (with_reducible repeat (first | apply Kd.R_alloc | apply Kd.R_drewN | apply Kd.R_drew)); exact HO_8.out))) (Kd.R_lt (by (with_reducible repeat (first | apply Kd.R_alloc | apply Kd.R_drewN | apply Kd.R_drew)); exact HO186.out))) (below_size (by repeat (first | (with_reducible first | exact HB.out | apply below_alloc | apply pw_below_drewN | apply below_drew1) | exact HB.out)))); have n5_ := Aside0.mk (below_step (by repeat (first | (with_reducible first | exact HB.out | apply below_alloc | apply pw_below_drewN | apply below_drew1) | exact HB.out)) hb); clear HO_0; clear HO_8; clear HO183; clear HO186; clear HB; have HO_0 := n0_; have HO_8 := n1_; have HO183 := n2_; have HO186 := n3_; have HO189 := n4_; have HB := n5_; clear n0_ n1_ n2_ n3_ n4_ n5_; (try clear hb); (try clear hb2); (try clear hk); (try clear hi); (try clear ho0); obtain ⟨Ao28, co28, eo28⟩ := Kd.R_slice HO189.out; subst eo28) | ((with_reducible refine gate_builtin (b := .append) (xs := #[.tmp 74, .tmp 78]) rfl ?_); at_builtin; refine Kd.R_append_rows (Kd.int .i64) (w0 := w) w.heap.size rfl (.tmp 74) (.tmp 78) 22 3 (.int .i64 0) 8 rfl Try.underlying22 info3 rfl (by decide) (by omega) u8 x8_3 t187 _ _ _ (fun k_ => (w.heap.size ≤ k_) ∧ some k_ ≠ (.slice Ao25 y184.length co25 : Value).ownBlock) (fun _ => False) rfl rfl ?aO ?aR (fun _ _ h => h) (fun _ h => h.elim) ?aF ?aB ?aS ?aL ?_; (case aR => repeat (first | exact (Kd.R_reads' HO189.out).2.2 | (with_reducible refine Kd.C_alloc ?_ _) | (with_reducible refine Kd.C_drewN ?_ _) | (with_reducible refine Kd.C_drew ?_))); (case aB => exact (by repeat (first | (with_reducible first | exact HB.out | apply below_alloc | apply pw_below_drewN | apply below_drew1) | exact HB.out))); (case aF => exact (fun k_ hk => ⟨(Nat.le_trans (below_size (by repeat (first | (with_reducible first | exact HB.out | apply below_alloc | apply pw_below_drewN | apply below_drew1) | exact HB.out))) hk), Kd.fresh' (Kd.R_lt (by (with_reducible repeat (first | apply Kd.R_alloc | apply Kd.R_drewN | apply Kd.R_drew)); exact HO186.out)) k_ hk⟩)); (case aO => exact (by (with_reducible repeat (first | apply Kd.R_alloc | apply Kd.R_drewN | apply Kd.R_drew)); exact Kd.R_mono HO_8.out (fun _ hk => ⟨hk.1.1, hk.1.2⟩))); (case aS => exact (below_size (by repeat (first | (with_reducible first | exact HB.out | apply below_alloc | apply pw_below_drewN | apply below_drew1) | exact HB.out)))); (case aL => have := LMc20.out; omega); intro v191 w27 ho hb hg hat; rw [← Ny190.out] at ho; have n0_ := Aside0.mk (Kd.V_afterv (ok := (fun k_ => (P0_ k_ ∨ w.heap.size ≤ k_) ∧ some k_ ≠ (.slice Ao25 y184.length co25 : Value).ownBlock ∧ some k_ ≠ (.slice Ao28 t187.length co28 : Value).ownBlock)) (by (with_reducible repeat (first | apply Kd.V_alloc | apply Kd.V_drewN | apply Kd.V_drew)); exact Kd.V_mono HO_0.out (fun _ hk => ⟨⟨hk.1.1.1, ⟨hk.1.2, hk.2⟩⟩, hk.1.1.2⟩)) hg hat); have n1_ := Aside0.mk (Kd.V_afterv (ok := (fun k_ => (P0_ k_ ∨ w.heap.size ≤ k_) ∧ some k_ ≠ (.slice Ao25 y184.length co25 : Value).ownBlock ∧ some k_ ≠ (.slice Ao28 t187.length co28 : Value).ownBlock)) (by (with_reducible repeat (first | apply Kd.V_alloc | apply Kd.V_drewN | apply Kd.V_drew)); exact Kd.V_mono HO183.out (fun _ hk => ⟨⟨hk.1.1.1, ⟨hk.1.2, hk.2⟩⟩, hk.1.1.2⟩)) hg hat); have n2_ := Aside0.mk (Kd.R_after (ok := (fun k_ => (w.heap.size ≤ k_) ∧ some k_ ≠ (.slice Ao28 t187.length co28 : Value).ownBlock)) (by (with_reducible repeat (first | apply Kd.R_alloc | apply Kd.R_drewN | apply Kd.R_drew)); exact Kd.R_mono HO186.out (fun _ hk => ⟨⟨hk.1.1.1, hk.2⟩, hk.1.2⟩)) hg hat); have n3_ := Aside0.mk (hb); have n4_ := Aside0.mk (ho); clear HO_0; clear HO183; clear HO186; clear HB; clear HO_8; clear HO189; have HO_0 := n0_; have HO183 := n1_; have HO186 := n2_; have HB := n3_; have HO192 := n4_; clear n0_ n1_ n2_ n3_ n4_; clear ho hb hg hat)))
                                go_roundg k3
                                case measure => have := HJ3.out; have := HK2.out; have := HK3.out; omega
                                case rel => exact ⟨(y179), (y190), (wrap64 ((rd x0_3 0) / 16)), (wrap64 (x10_3 - x10_3)), (by first | rfl | (simp; done) | (simp [*]; done) | (simp; kernel_rfl)), (by first | rfl | (simp; done) | (simp [*]; done) | (simp; kernel_rfl)), H', ⟨by have := HJ3.out; have := HK2.out; have := HK3.out; omega⟩, ⟨by (with_reducible repeat (first | apply Kd.V_alloc | apply Kd.V_drewN | apply Kd.V_drew)); exact Kd.V_mono HO183.out (fun _ hk => ⟨hk.1.1, hk.2⟩)⟩, ⟨by (with_reducible repeat (first | apply Kd.R_alloc | apply Kd.R_drewN | apply Kd.R_drew)); exact Kd.R_mono HO192.out (fun _ hk => hk.1)⟩, ⟨by repeat (first | (with_reducible first | exact HB.out | apply below_alloc | apply pw_below_drewN | apply below_drew1) | exact HB.out)⟩⟩
                              · rw [if_neg c20] at H
                                exact absurd H (by simp)
                          · rw [if_neg c15] at H
                            have c15b0 : ((wrap64 (Go.bits .and .u8 (rd x0_3 0) 15)) == 0) = false := beq_eq_false_iff_ne.mpr c15
                            have c15b1 : ((wrap64 (Go.bits .and .u8 (rd x0_3 0) 15)) != 0) = true := bne_iff_ne.mpr c15
                            by_cases c29 : (wrap64 (Go.bits .and .u8 (rd x0_3 0) 15)) = 15
                            · rw [if_pos c29] at H
                              have c29b0 : ((wrap64 (Go.bits .and .u8 (rd x0_3 0) 15)) == 15) = true := beq_iff_eq.mpr c29
                              have c29b1 : ((wrap64 (Go.bits .and .u8 (rd x0_3 0) 15)) != 15) = false := bne_eq_false_iff_eq.mpr c29
                              clear c29
                              by_cases c30 : (y179.length : Int) = 0
                              · rw [if_pos c30] at H
                                have c30b0 : ((y179.length : Int) == 0) = true := beq_iff_eq.mpr c30
                                have c30b1 : ((y179.length : Int) != 0) = false := bne_eq_false_iff_eq.mpr c30
                                clear c30
                                simp only [Option.some.injEq, Prod.mk.injEq] at H
                                obtain ⟨rfl, rfl⟩ := H
                                obtain ⟨Ao31, co31, eo31⟩ := Kd.V_slice HO_0.out
                                subst eo31
                                have p177 : 0 ≤ (0 : Int) := (by omega)
                                have q177 : 0 < (x0_3.length : Int) := of_decide_eq_true (by first | (with_reducible assumption) | assumption)
                                obtain ⟨ad177, e177, hx177_0⟩ := Kd.at_int (Kd.V_reads' HO_0.out).2.2 0 p177 q177
                                cases e177
                                have qi177 : (0 < x0_3.length) = True := eq_true (by omega)
                                (try rw [show ((0 : Int)).toNat = 0 from rfl] at hx177_0)
                                (try rw [Addr.add_zero'] at hx177_0)
                                replace p177 := eq_true p177
                                replace q177 := eq_true q177
                                have p178 : 0 ≤ (0 : Int) := (by omega)
                                have q178 : 0 < (x0_3.length : Int) := of_decide_eq_true (by first | (with_reducible assumption) | assumption)
                                obtain ⟨ad178, e178, hx178_0⟩ := Kd.at_int (Kd.V_reads' HO_0.out).2.2 0 p178 q178
                                obtain rfl : ad177 = ad178 := (by injection e178)
                                have qi178 : (0 < x0_3.length) = True := eq_true (by omega)
                                (try rw [show ((0 : Int)).toNat = 0 from rfl] at hx178_0)
                                (try rw [Addr.add_zero'] at hx178_0)
                                replace p178 := eq_true p178
                                replace q178 := eq_true q178
                                have q32 : (1 : Int) ≤ ((x0_3.length : Int) : Int) := of_decide_eq_true (by first | (with_reducible assumption) | assumption)
                                obtain ⟨i032, hi032, _, hsz32, _⟩ := info_parts info5
                                have hroom32 : x0_3.length ≤ co31 := (Kd.V_reads' HO_0.out).2.1
                                have hC32 : Kd.F (Kd.int .u8) _ _ (some ad177) x0_3.length x0_3 := (Kd.V_at (base := w.heap.size) HO_0.out).2.2
                                have hcut32 := cut_from (P := Try.prog) 23 5 .i64 Try.underlying23 hi032 1 hsz32 (some ad177) x0_3.length co31 1 (by omega) q32
                                have hr32 := Kd.F_cut (m := (1 : Int).toNat) (c := co31) hC32 (by omega) hroom32
                                obtain ⟨A32, hA32⟩ : ∃ A1, A1 = (if co31 = (1 : Int).toNat then (some ad177) else ((some ad177) : Option Addr).map (·.add ((1 : Int).toNat * 1))) := ⟨_, rfl⟩
                                obtain ⟨c32, hc32⟩ : ∃ c1, c1 = co31 - (1 : Int).toNat := ⟨_, rfl⟩
                                have hy32 : y179.length = x0_3.length - (1 : Int).toNat := (by rw [Ny179.out, List.length_drop] <;> omega)
                                rw [show (x0_3).drop (1 : Int).toNat = y179 from Ny179.out.symm] at hr32
                                replace hr32 : Kd.F (Kd.int .u8) _ _ A32 y179.length y179 := (by rw [hA32]; exact hr32)
                                rw [← hy32, ← hA32, ← hc32] at hcut32
                                have HO183 := Aside0.mk (show Kd.V (Kd.int .u8) 5 _ w.heap.size _ (.slice A32 y179.length c32) y179 from Kd.V_mk (by rw [hy32, hc32]; exact Nat.sub_le_sub_right hroom32 _) hr32)
                                have HC183 := Aside0.mk (show y179.length ≤ c32 from by rw [hy32, hc32]; exact Nat.sub_le_sub_right hroom32 _)
                                clear hr32 hC32 hroom32 hi032 hsz32 hc32
                                have KY32 := Aside0.mk hy32
                                have KA32 := Aside0.mk hA32
                                clear hy32 hA32
                                replace q32 := eq_true q32
                                go_wp2
                                repeat (go_quiet (fail); try go_wp2)
                                go_ret2
                                exact ⟨_, by first | rfl | (simp [errW_none, errW_some] <;> rfl) | (simp [*, errW_none, errW_some] <;> rfl), by first | exact Kd.R_nil _ _ _ _ _ | exact Kd.N_nil _ _ _ _ _ | exact Kd.V_nil _ _ _ _ _ | exact Kd.Q_nil _ _ _ _ _ | exact Kd.S_nil _ _ _ _ _, by repeat (first | (with_reducible first | exact HB.out | apply below_alloc | apply pw_below_drewN | apply below_drew1) | exact HB.out)⟩
                              · rw [if_neg c30] at H
                                have c30b0 : ((y179.length : Int) == 0) = false := beq_eq_false_iff_ne.mpr c30
                                have c30b1 : ((y179.length : Int) != 0) = true := bne_iff_ne.mpr c30
                                have c30b2 : ¬ (y179 = []) := fun h_ => c30 (by rw [h_]; rfl)
                                by_cases c33 : 0 < (y179.length : Int)
                                · rw [if_pos c33] at H
                                  have c33b0 : decide (0 < (y179.length : Int)) = true := decide_eq_true c33
                                  have c33b1 : decide (0 < y179.length) = true := decide_eq_true (by omega)
                                  clear c33
                                  by_cases c34 : 1 ≤ (y179.length : Int)
                                  · rw [if_pos c34] at H
                                    have c34b0 := eq_true c34
                                    have c34b1 : decide (1 ≤ (y179.length : Int)) = true := decide_eq_true c34
                                    clear c34
                                    obtain ⟨y194, hy194⟩ : ∃ y_ : List Int, y_ = (y179.drop 1) := ⟨_, rfl⟩
                                    replace H : (if (wrap64 ((wrap64 (Go.bits .and .u8 (rd x0_3 0) 15)) + (wrap64 (rd y179 0)))) > 63 then (bitmap_Pixels.j3 k3 y194 a1 x8_3 x9_3 x10_3 (wrap64 ((rd x0_3 0) / 16)) (wrap64 ((wrap64 (Go.bits .and .u8 (rd x0_3 0) 15)) + (wrap64 (rd y179 0)))) a2 x22_2 true) else (bitmap_Pixels.j3 k3 y194 a1 x8_3 x9_3 x10_3 (wrap64 ((rd x0_3 0) / 16)) (wrap64 ((wrap64 (Go.bits .and .u8 (rd x0_3 0) 15)) + (wrap64 (rd y179 0)))) a2 x22_2 (decide ((wrap64 ((wrap64 (Go.bits .and .u8 (rd x0_3 0) 15)) + (wrap64 (rd y179 0)))) ≥ x10_3)))) = some (r1, r2) := by first | (rw [hy194]; with_reducible exact H) | (have H2_ := (Option.bind_some _ _).symm.trans H; rw [hy194]; with_reducible exact H2_) | (have H2_ := (Option.bind_some _ _).symm.trans H; with_reducible exact H2_) | with_reducible exact H | (rw [hy194]; exact H) | exact H
                                    have Ny194 := Aside0.mk hy194
                                    clear hy194
                                    have HC35 := Aside0.mk H
                                    clear H
                                    obtain ⟨Ao36, co36, eo36⟩ := Kd.V_slice HO_0.out
                                    subst eo36
                                    have p177 : 0 ≤ (0 : Int) := (by omega)
                                    have q177 : 0 < (x0_3.length : Int) := of_decide_eq_true (by first | (with_reducible assumption) | assumption)
                                    obtain ⟨ad177, e177, hx177_0⟩ := Kd.at_int (Kd.V_reads' HO_0.out).2.2 0 p177 q177
                                    cases e177
                                    have qi177 : (0 < x0_3.length) = True := eq_true (by omega)
                                    (try rw [show ((0 : Int)).toNat = 0 from rfl] at hx177_0)
                                    (try rw [Addr.add_zero'] at hx177_0)
                                    replace p177 := eq_true p177
                                    replace q177 := eq_true q177
                                    have p178 : 0 ≤ (0 : Int) := (by omega)
                                    have q178 : 0 < (x0_3.length : Int) := of_decide_eq_true (by first | (with_reducible assumption) | assumption)
                                    obtain ⟨ad178, e178, hx178_0⟩ := Kd.at_int (Kd.V_reads' HO_0.out).2.2 0 p178 q178
                                    obtain rfl : ad177 = ad178 := (by injection e178)
                                    have qi178 : (0 < x0_3.length) = True := eq_true (by omega)
                                    (try rw [show ((0 : Int)).toNat = 0 from rfl] at hx178_0)
                                    (try rw [Addr.add_zero'] at hx178_0)
                                    replace p178 := eq_true p178
                                    replace q178 := eq_true q178
                                    have q37 : (1 : Int) ≤ ((x0_3.length : Int) : Int) := of_decide_eq_true (by first | (with_reducible assumption) | assumption)
                                    obtain ⟨i037, hi037, _, hsz37, _⟩ := info_parts info5
                                    have hroom37 : x0_3.length ≤ co36 := (Kd.V_reads' HO_0.out).2.1
                                    have hC37 : Kd.F (Kd.int .u8) _ _ (some ad177) x0_3.length x0_3 := (Kd.V_at (base := w.heap.size) HO_0.out).2.2
                                    have hcut37 := cut_from (P := Try.prog) 23 5 .i64 Try.underlying23 hi037 1 hsz37 (some ad177) x0_3.length co36 1 (by omega) q37
                                    have hr37 := Kd.F_cut (m := (1 : Int).toNat) (c := co36) hC37 (by omega) hroom37
                                    obtain ⟨A37, hA37⟩ : ∃ A1, A1 = (if co36 = (1 : Int).toNat then (some ad177) else ((some ad177) : Option Addr).map (·.add ((1 : Int).toNat * 1))) := ⟨_, rfl⟩
                                    obtain ⟨c37, hc37⟩ : ∃ c1, c1 = co36 - (1 : Int).toNat := ⟨_, rfl⟩
                                    have hy37 : y179.length = x0_3.length - (1 : Int).toNat := (by rw [Ny179.out, List.length_drop] <;> omega)
                                    rw [show (x0_3).drop (1 : Int).toNat = y179 from Ny179.out.symm] at hr37
                                    replace hr37 : Kd.F (Kd.int .u8) _ _ A37 y179.length y179 := (by rw [hA37]; exact hr37)
                                    rw [← hy37, ← hA37, ← hc37] at hcut37
                                    have HO183 := Aside0.mk (show Kd.V (Kd.int .u8) 5 _ w.heap.size _ (.slice A37 y179.length c37) y179 from Kd.V_mk (by rw [hy37, hc37]; exact Nat.sub_le_sub_right hroom37 _) hr37)
                                    have HC183 := Aside0.mk (show y179.length ≤ c37 from by rw [hy37, hc37]; exact Nat.sub_le_sub_right hroom37 _)
                                    clear hr37 hC37 hroom37 hi037 hsz37 hc37
                                    have KY37 := Aside0.mk hy37
                                    have KA37 := Aside0.mk hA37
                                    clear hy37 hA37
                                    replace q37 := eq_true q37
                                    have p193 : 0 ≤ (0 : Int) := (by omega)
                                    have q193 : 0 < (y179.length : Int) := of_decide_eq_true (by first | (with_reducible assumption) | assumption)
                                    obtain ⟨ad193, e193, hx193_0⟩ := Kd.at_int (Kd.V_reads' HO183.out).2.2 0 p193 q193
                                    cases e193
                                    have qi193 : (0 < y179.length) = True := eq_true (by omega)
                                    (try rw [show ((0 : Int)).toNat = 0 from rfl] at hx193_0)
                                    (try rw [Addr.add_zero'] at hx193_0)
                                    replace p193 := eq_true p193
                                    replace q193 := eq_true q193
                                    have q38 : (1 : Int) ≤ ((y179.length : Int) : Int) := of_decide_eq_true (by first | (with_reducible assumption) | assumption)
                                    obtain ⟨i038, hi038, _, hsz38, _⟩ := info_parts info5
                                    have hroom38 : y179.length ≤ c37 := (Kd.V_reads' HO183.out).2.1
                                    have hC38 : Kd.F (Kd.int .u8) _ _ (some ad193) y179.length y179 := (Kd.V_at (base := w.heap.size) HO183.out).2.2
                                    have hcut38 := cut_from (P := Try.prog) 23 5 .i64 Try.underlying23 hi038 1 hsz38 (some ad193) y179.length c37 1 (by omega) q38
                                    have hr38 := Kd.F_cut (m := (1 : Int).toNat) (c := c37) hC38 (by omega) hroom38
                                    obtain ⟨A38, hA38⟩ : ∃ A1, A1 = (if c37 = (1 : Int).toNat then (some ad193) else ((some ad193) : Option Addr).map (·.add ((1 : Int).toNat * 1))) := ⟨_, rfl⟩
                                    obtain ⟨c38, hc38⟩ : ∃ c1, c1 = c37 - (1 : Int).toNat := ⟨_, rfl⟩
                                    have hy38 : y194.length = y179.length - (1 : Int).toNat := (by rw [Ny194.out, List.length_drop] <;> omega)
                                    rw [show (y179).drop (1 : Int).toNat = y194 from Ny194.out.symm] at hr38
                                    replace hr38 : Kd.F (Kd.int .u8) _ _ A38 y194.length y194 := (by rw [hA38]; exact hr38)
                                    rw [← hy38, ← hA38, ← hc38] at hcut38
                                    have HO198 := Aside0.mk (show Kd.V (Kd.int .u8) 5 _ w.heap.size _ (.slice A38 y194.length c38) y194 from Kd.V_mk (by rw [hy38, hc38]; exact Nat.sub_le_sub_right hroom38 _) hr38)
                                    have HC198 := Aside0.mk (show y194.length ≤ c38 from by rw [hy38, hc38]; exact Nat.sub_le_sub_right hroom38 _)
                                    clear hr38 hC38 hroom38 hi038 hsz38 hc38
                                    have KY38 := Aside0.mk hy38
                                    have KA38 := Aside0.mk hA38
                                    clear hy38 hA38
                                    replace q38 := eq_true q38
                                    go_upto_region 20 with (fail)
                                    repeat (go_quiet (fail); go_upto_region 20 with (fail))
                                    go_cut [66] (fun v66 wc => ∃ (kq : Nat) (x66_34 : Bool), v66 = .bool x66_34 ∧ Aside0 (bitmap_Pixels.j3 kq y194 a1 x8_3 x9_3 x10_3 (wrap64 ((rd x0_3 0) / 16)) (wrap64 ((wrap64 (Go.bits .and .u8 (rd x0_3 0) 15)) + (wrap64 (rd y179 0)))) a2 x22_2 x66_34 = some (r1, r2)) ∧ Aside0 (kq ≤ k3) ∧ Aside0 (Kd.V (Kd.int .u8) 5 wc w.heap.size (fun k_ => (P0_ k_ ∨ w.heap.size ≤ k_) ∧ some k_ ≠ (u8 : Value).ownBlock) (.slice A38 y194.length c38) y194) ∧ Aside0 (Kd.R (Kd.int .i64) 3 wc w.heap.size (fun k_ => (w.heap.size ≤ k_)) u8 x8_3) ∧ Aside0 (Below w.heap.size w wc))
                                    case first =>
                                      have H := HC35.out
                                      clear HC35
                                      by_cases c39 : (wrap64 ((wrap64 (Go.bits .and .u8 (rd x0_3 0) 15)) + (wrap64 (rd y179 0)))) > 63
                                      · rw [if_pos c39] at H
                                        have c39b0 : decide (63 < (wrap64 ((wrap64 (Go.bits .and .u8 (rd x0_3 0) 15)) + (wrap64 (rd y179 0))))) = true := decide_eq_true c39
                                        clear c39
                                        (first | rw [c39b0] | (simp only [i64_w, i32_w]; rw [c39b0]) | rw [c39b1] | skip)
                                        have H' := Aside0.mk H
                                        clear H
                                        go_wp2
                                        repeat (go_quiet (fail); try go_wp2)
                                        go_meet
                                        case rel => exact ⟨_, (true), (by first | rfl | (simp; done) | (simp [*]; done) | (simp; kernel_rfl)), H', ⟨by have := HJ3.out; have := HK2.out; have := HK3.out; first | omega | exact Nat.le_refl _⟩, ⟨by (with_reducible repeat (first | apply Kd.V_alloc | apply Kd.V_drewN | apply Kd.V_drew)); exact HO198.out⟩, ⟨by (with_reducible repeat (first | apply Kd.R_alloc | apply Kd.R_drewN | apply Kd.R_drew)); exact HO_8.out⟩, ⟨by repeat (first | (with_reducible first | exact HB.out | apply below_alloc | apply pw_below_drewN | apply below_drew1) | exact HB.out)⟩⟩
                                      · rw [if_neg c39] at H
                                        have c39b0 : decide (63 < (wrap64 ((wrap64 (Go.bits .and .u8 (rd x0_3 0) 15)) + (wrap64 (rd y179 0))))) = false := decide_eq_false c39
                                        clear c39
                                        (first | rw [c39b0] | (simp only [i64_w, i32_w]; rw [c39b0]) | rw [c39b1] | skip)
                                        have H' := Aside0.mk H
                                        clear H
                                        go_wp2
                                        repeat (go_quiet (fail); try go_wp2)
                                        go_meet
                                        case rel => exact ⟨_, (decide ((wrap64 ((wrap64 (Go.bits .and .u8 (rd x0_3 0) 15)) + (wrap64 (rd y179 0)))) ≥ x10_3)), (by first | rfl | (simp; done) | (simp [*]; done) | (simp; kernel_rfl)), H', ⟨by have := HJ3.out; have := HK2.out; have := HK3.out; first | omega | exact Nat.le_refl _⟩, ⟨by (with_reducible repeat (first | apply Kd.V_alloc | apply Kd.V_drewN | apply Kd.V_drew)); exact HO198.out⟩, ⟨by (with_reducible repeat (first | apply Kd.R_alloc | apply Kd.R_drewN | apply Kd.R_drew)); exact HO_8.out⟩, ⟨by repeat (first | (with_reducible first | exact HB.out | apply below_alloc | apply pw_below_drewN | apply below_drew1) | exact HB.out)⟩⟩
                                    case rest =>
                                      clear HC35
                                      try clear c1
                                      try clear p1
                                      try clear q1
                                      try clear hx1
                                      try clear qi1
                                      try clear c2
                                      try clear p2
                                      try clear q2
                                      try clear c3
                                      try clear q3
                                      try clear c6
                                      try clear p6
                                      try clear c8
                                      try clear c9
                                      try clear c9b0
                                      try clear c10
                                      try clear c10b0
                                      try clear c11
                                      try clear c11b0
                                      try clear c11b1
                                      try clear c11b2
                                      try clear c13
                                      try clear c13b0
                                      try clear c13b1
                                      try clear c14
                                      try clear c14b0
                                      try clear c14b1
                                      try clear c15
                                      try clear c15b0
                                      try clear c15b1
                                      try clear c16
                                      try clear c16b0
                                      try clear c16b1
                                      try clear p17
                                      try clear q17
                                      try clear hx17
                                      try clear qi17
                                      try clear c18
                                      try clear q18
                                      try clear p19
                                      try clear q19
                                      try clear hx19
                                      try clear qi19
                                      try clear c20
                                      try clear c22
                                      try clear q22
                                      try clear c29
                                      try clear c29b0
                                      try clear c29b1
                                      try clear c30
                                      try clear c30b0
                                      try clear c30b1
                                      try clear c30b2
                                      try clear c32
                                      try clear q32
                                      try clear c33
                                      try clear c33b0
                                      try clear c33b1
                                      try clear c34
                                      try clear c34b0
                                      try clear c34b1
                                      try clear c37
                                      try clear q37
                                      try clear c38
                                      try clear q38
                                      try clear c39
                                      try clear c39b0
                                      try clear c39b1
                                      try clear hx177_0
                                      try clear hx178_0
                                      try clear hx193_0
                                      try clear p177
                                      try clear p178
                                      try clear p193
                                      try clear p2
                                      try clear q177
                                      try clear q178
                                      try clear q18
                                      try clear q193
                                      try clear q22
                                      try clear q32
                                      try clear q37
                                      try clear q38
                                      obtain ⟨kq, x66_34, rfl, HA, HJ34, HO_0, HO_8, HB⟩ := hcut
                                      cases kq with
                                      | zero => exact absurd HA.out (by simp [bitmap_Pixels.j3])
                                      | succ kj34 =>
                                        have H := HA.out
                                        clear HA
                                        simp only [bitmap_Pixels.j3] at H
                                        by_cases c40 : x66_34 = true
                                        · subst c40
                                          have H1 : (some (([] : List Int), 4)) = some (r1, r2) := by rw [if_pos rfl] at H; exact H
                                          clear H
                                          have H := H1
                                          clear H1
                                          simp only [Option.some.injEq, Prod.mk.injEq] at H
                                          obtain ⟨rfl, rfl⟩ := H
                                          go_wp2
                                          repeat (go_quiet (fail); try go_wp2)
                                          go_ret2
                                          exact ⟨_, by first | rfl | (simp [errW_none, errW_some] <;> rfl) | (simp [*, errW_none, errW_some] <;> rfl), by first | exact Kd.R_nil _ _ _ _ _ | exact Kd.N_nil _ _ _ _ _ | exact Kd.V_nil _ _ _ _ _ | exact Kd.Q_nil _ _ _ _ _ | exact Kd.S_nil _ _ _ _ _, by repeat (first | (with_reducible first | exact HB.out | apply below_alloc | apply pw_below_drewN | apply below_drew1) | exact HB.out)⟩
                                        · replace c40 := Bool.eq_false_iff.mpr c40
                                          subst c40
                                          have H1 : (if (wrap64 ((rd x0_3 0) / 16)) = x9_3 then (some (([] : List Int), 4)) else ((slices_Repeat_int_int.f (([(wrap64 ((rd x0_3 0) / 16))] : List Int)) (wrap64 ((wrap64 (Go.bits .and .u8 (rd x0_3 0) 15)) + (wrap64 (rd y179 0))))).bind fun t202 => (if x8_3.length + t202.length < 17592186044416 then (bitmap_Pixels.l1 kj34 y194 a1 (x8_3 ++ t202) (wrap64 ((rd x0_3 0) / 16)) (wrap64 (x10_3 - (wrap64 ((wrap64 (Go.bits .and .u8 (rd x0_3 0) 15)) + (wrap64 (rd y179 0)))))) a2 x22_2) else (none)))) = some (r1, r2) := by rw [if_neg (show ¬ (false = true) by decide)] at H; exact H
                                          clear H
                                          have H := H1
                                          clear H1
                                          by_cases c41 : (wrap64 ((rd x0_3 0) / 16)) = x9_3
                                          · rw [if_pos c41] at H
                                            have c41b0 : ((wrap64 ((rd x0_3 0) / 16)) == x9_3) = true := beq_iff_eq.mpr c41
                                            have c41b1 : ((wrap64 ((rd x0_3 0) / 16)) != x9_3) = false := bne_eq_false_iff_eq.mpr c41
                                            clear c41
                                            simp only [Option.some.injEq, Prod.mk.injEq] at H
                                            obtain ⟨rfl, rfl⟩ := H
                                            go_wp2
                                            repeat (go_quiet (fail); try go_wp2)
                                            go_ret2
                                            exact ⟨_, by first | rfl | (simp [errW_none, errW_some] <;> rfl) | (simp [*, errW_none, errW_some] <;> rfl), by first | exact Kd.R_nil _ _ _ _ _ | exact Kd.N_nil _ _ _ _ _ | exact Kd.V_nil _ _ _ _ _ | exact Kd.Q_nil _ _ _ _ _ | exact Kd.S_nil _ _ _ _ _, by repeat (first | (with_reducible first | exact HB.out | apply below_alloc | apply pw_below_drewN | apply below_drew1) | exact HB.out)⟩
                                          · rw [if_neg c41] at H
                                            have c41b0 : ((wrap64 ((rd x0_3 0) / 16)) == x9_3) = false := beq_eq_false_iff_ne.mpr c41
                                            have c41b1 : ((wrap64 ((rd x0_3 0) / 16)) != x9_3) = true := bne_iff_ne.mpr c41
                                            obtain ⟨y199, hy199⟩ : ∃ y_ : List Int, y_ = (([(wrap64 ((rd x0_3 0) / 16))] : List Int)) := ⟨_, rfl⟩
                                            replace H : ((slices_Repeat_int_int.f y199 (wrap64 ((wrap64 (Go.bits .and .u8 (rd x0_3 0) 15)) + (wrap64 (rd y179 0))))).bind fun t202 => (if x8_3.length + t202.length < 17592186044416 then (bitmap_Pixels.l1 kj34 y194 a1 (x8_3 ++ t202) (wrap64 ((rd x0_3 0) / 16)) (wrap64 (x10_3 - (wrap64 ((wrap64 (Go.bits .and .u8 (rd x0_3 0) 15)) + (wrap64 (rd y179 0)))))) a2 x22_2) else (none))) = some (r1, r2) := by first | (rw [hy199]; with_reducible exact H) | (have H2_ := (Option.bind_some _ _).symm.trans H; rw [hy199]; with_reducible exact H2_) | (have H2_ := (Option.bind_some _ _).symm.trans H; with_reducible exact H2_) | with_reducible exact H | (rw [hy199]; exact H) | exact H
                                            have Ny199 := Aside0.mk hy199
                                            clear hy199
                                            replace H := Option.bind_eq_some_iff.mp H
                                            obtain ⟨t202, A420, H⟩ := H
                                            replace H : (if x8_3.length + t202.length < 17592186044416 then (bitmap_Pixels.l1 kj34 y194 a1 (x8_3 ++ t202) (wrap64 ((rd x0_3 0) / 16)) (wrap64 (x10_3 - (wrap64 ((wrap64 (Go.bits .and .u8 (rd x0_3 0) 15)) + (wrap64 (rd y179 0)))))) a2 x22_2) else (none)) = some (r1, r2) := H
                                            have A42 := Aside0.mk A420
                                            clear A420
                                            by_cases c43 : x8_3.length + t202.length < 17592186044416
                                            · rw [if_pos c43] at H
                                              have LMc43 := Aside0.mk c43
                                              clear c43
                                              obtain ⟨y205, hy205⟩ : ∃ y_ : List Int, y_ = (x8_3 ++ t202) := ⟨_, rfl⟩
                                              replace H : (bitmap_Pixels.l1 kj34 y194 a1 y205 (wrap64 ((rd x0_3 0) / 16)) (wrap64 (x10_3 - (wrap64 ((wrap64 (Go.bits .and .u8 (rd x0_3 0) 15)) + (wrap64 (rd y179 0)))))) a2 x22_2) = some (r1, r2) := by first | (rw [hy205]; with_reducible exact H) | (have H2_ := (Option.bind_some _ _).symm.trans H; rw [hy205]; with_reducible exact H2_) | (have H2_ := (Option.bind_some _ _).symm.trans H; with_reducible exact H2_) | with_reducible exact H | (rw [hy205]; exact H) | exact H
                                              have Ny205 := Aside0.mk hy205
                                              clear hy205
                                              have H' := Aside0.mk H
                                              clear H
                                              go_wp2_with (first | ((with_reducible refine gate_dst (N := 76) rfl ?_); refine Kd.R_lit (Kd.int .i64) _ 3 ?hg (N := 76) ?hd (xs := ([(wrap64 ((rd x0_3 0) / 16))] : List Int)) (inner := [.int .i64 (wrap64 ((rd x0_3 0) / 16))]) (ok := fun _ => True) (okp := fun _ => True) ?hr ?hp (fun _ hk => hk) trivial (Below.refl _ _) (Nat.le_refl _) (by simp) ?_; (case hd => rfl); (case hg => rfl); (case hr => first | (go_simp; done) | (go_simp; rfl)); (case hp => exact (Reps.one (show Kd.M (Kd.int .i64) _ _ _ (wrap64 ((rd x0_3 0) / 16)) [.int .i64 (wrap64 ((rd x0_3 0) / 16))] from rfl) (Reps.none _ _))); intro v200 w44 ho45 hb hg_ hnew_; clear hg_ hnew_; (first | rw [← Ny199.out] at ho45 | (simp only [Int.reduceToNat] at ho45; rw [← Ny199.out] at ho45)); have n0_ := Aside0.mk (Kd.V_elder' (by (with_reducible repeat (first | apply Kd.V_alloc | apply Kd.V_drewN | apply Kd.V_drew)); exact HO_0.out) (Kd.R_base ho45) hb); have n1_ := Aside0.mk (Kd.R_elder' (by (with_reducible repeat (first | apply Kd.R_alloc | apply Kd.R_drewN | apply Kd.R_drew)); exact HO_8.out) (Kd.R_base ho45) hb); have n2_ := Aside0.mk (Kd.R_lower (Kd.R_new' (Kd.R_newM (M := fun k_ => (w.heap.size ≤ k_)) ho45 (below_size (by repeat (first | (with_reducible first | exact HB.out | apply below_alloc | apply pw_below_drewN | apply below_drew1) | exact HB.out))) (fun k_ h_ => h_)) (Kd.R_lt (by (with_reducible repeat (first | apply Kd.R_alloc | apply Kd.R_drewN | apply Kd.R_drew)); exact HO_8.out))) (below_size (by repeat (first | (with_reducible first | exact HB.out | apply below_alloc | apply pw_below_drewN | apply below_drew1) | exact HB.out)))); have n3_ := Aside0.mk (below_step (by repeat (first | (with_reducible first | exact HB.out | apply below_alloc | apply pw_below_drewN | apply below_drew1) | exact HB.out)) hb); clear HO_0; clear HO_8; clear HB; have HO_0 := n0_; have HO_8 := n1_; have HO201 := n2_; have HB := n3_; clear n0_ n1_ n2_ n3_; clear hb ho45; obtain ⟨Ao46, co46, eo46⟩ := Kd.R_slice HO201.out; subst eo46) | (go_at_call 53; (with_reducible refine (slices_Repeat_int_int.calls _ _ y199 (wrap64 ((wrap64 (Go.bits .and .u8 (rd x0_3 0) 15)) + (wrap64 (rd y179 0)))) t202 _ ?side1 ?side2 A42.out).mono ?_); (case side1 => repeat (first | exact (Kd.R_reads' HO201.out).2.2 | (with_reducible refine Kd.C_alloc ?_ _) | (with_reducible refine Kd.C_drewN ?_ _) | (with_reducible refine Kd.C_drew ?_))); (case side2 => exact (Kd.R_reads' HO201.out).2.1); rintro e w47 ⟨v203, rfl, ho0, hb⟩; have n0_ := Aside0.mk (Kd.V_elder' (by (with_reducible repeat (first | apply Kd.V_alloc | apply Kd.V_drewN | apply Kd.V_drew)); exact HO_0.out) (Kd.R_base ho0) hb); have n1_ := Aside0.mk (Kd.R_elder' (by (with_reducible repeat (first | apply Kd.R_alloc | apply Kd.R_drewN | apply Kd.R_drew)); exact HO_8.out) (Kd.R_base ho0) hb); have n2_ := Aside0.mk (Kd.R_elder' (by (with_reducible repeat (first | apply Kd.R_alloc | apply Kd.R_drewN | apply Kd.R_drew)); exact HO201.out) (Kd.R_base ho0) hb); have n3_ := Aside0.mk (Kd.R_lower (Kd.R_new' (Kd.R_new' (Kd.R_newM (M := fun k_ => (w.heap.size ≤ k_)) ho0 (below_size (by repeat (first | (with_reducible first | exact HB.out | apply below_alloc | apply pw_below_drewN | apply below_drew1) | exact HB.out))) (fun k_ h_ => h_)) (Kd.R_lt (by (with_reducible repeat (first | apply Kd.R_alloc | apply Kd.R_drewN | apply Kd.R_drew)); exact HO_8.out))) (Kd.R_lt (by (with_reducible repeat (first | apply Kd.R_alloc | apply Kd.R_drewN | apply Kd.R_drew)); exact HO201.out))) (below_size (by repeat (first | (with_reducible first | exact HB.out | apply below_alloc | apply pw_below_drewN | apply below_drew1) | exact HB.out)))); have n4_ := Aside0.mk (below_step (by repeat (first | (with_reducible first | exact HB.out | apply below_alloc | apply pw_below_drewN | apply below_drew1) | exact HB.out)) hb); clear HO_0; clear HO_8; clear HO201; clear HB; have HO_0 := n0_; have HO_8 := n1_; have HO201 := n2_; have HO204 := n3_; have HB := n4_; clear n0_ n1_ n2_ n3_ n4_; (try clear hb); (try clear hb2); (try clear hk); (try clear hi); (try clear ho0); obtain ⟨Ao49, co49, eo49⟩ := Kd.R_slice HO204.out; subst eo49) | ((with_reducible refine gate_builtin (b := .append) (xs := #[.tmp 74, .tmp 78]) rfl ?_); at_builtin; refine Kd.R_append_rows (Kd.int .i64) (w0 := w) w.heap.size rfl (.tmp 74) (.tmp 78) 22 3 (.int .i64 0) 8 rfl Try.underlying22 info3 rfl (by decide) (by omega) u8 x8_3 t202 _ _ _ (fun k_ => (w.heap.size ≤ k_) ∧ some k_ ≠ (.slice Ao46 y199.length co46 : Value).ownBlock) (fun _ => False) rfl rfl ?aO ?aR (fun _ _ h => h) (fun _ h => h.elim) ?aF ?aB ?aS ?aL ?_; (case aR => repeat (first | exact (Kd.R_reads' HO204.out).2.2 | (with_reducible refine Kd.C_alloc ?_ _) | (with_reducible refine Kd.C_drewN ?_ _) | (with_reducible refine Kd.C_drew ?_))); (case aB => exact (by repeat (first | (with_reducible first | exact HB.out | apply below_alloc | apply pw_below_drewN | apply below_drew1) | exact HB.out))); (case aF => exact (fun k_ hk => ⟨(Nat.le_trans (below_size (by repeat (first | (with_reducible first | exact HB.out | apply below_alloc | apply pw_below_drewN | apply below_drew1) | exact HB.out))) hk), Kd.fresh' (Kd.R_lt (by (with_reducible repeat (first | apply Kd.R_alloc | apply Kd.R_drewN | apply Kd.R_drew)); exact HO201.out)) k_ hk⟩)); (case aO => exact (by (with_reducible repeat (first | apply Kd.R_alloc | apply Kd.R_drewN | apply Kd.R_drew)); exact Kd.R_mono HO_8.out (fun _ hk => ⟨hk.1.1, hk.1.2⟩))); (case aS => exact (below_size (by repeat (first | (with_reducible first | exact HB.out | apply below_alloc | apply pw_below_drewN | apply below_drew1) | exact HB.out)))); (case aL => have := LMc43.out; omega); intro v206 w48 ho hb hg hat; rw [← Ny205.out] at ho; have n0_ := Aside0.mk (Kd.V_afterv (ok := (fun k_ => (P0_ k_ ∨ w.heap.size ≤ k_) ∧ some k_ ≠ (.slice Ao46 y199.length co46 : Value).ownBlock ∧ some k_ ≠ (.slice Ao49 t202.length co49 : Value).ownBlock)) (by (with_reducible repeat (first | apply Kd.V_alloc | apply Kd.V_drewN | apply Kd.V_drew)); exact Kd.V_mono HO_0.out (fun _ hk => ⟨⟨hk.1.1.1, ⟨hk.1.2, hk.2⟩⟩, hk.1.1.2⟩)) hg hat); have n1_ := Aside0.mk (Kd.R_after (ok := (fun k_ => (w.heap.size ≤ k_) ∧ some k_ ≠ (.slice Ao49 t202.length co49 : Value).ownBlock)) (by (with_reducible repeat (first | apply Kd.R_alloc | apply Kd.R_drewN | apply Kd.R_drew)); exact Kd.R_mono HO201.out (fun _ hk => ⟨⟨hk.1.1.1, hk.2⟩, hk.1.2⟩)) hg hat); have n2_ := Aside0.mk (hb); have n3_ := Aside0.mk (ho); clear HO_0; clear HO201; clear HB; clear HO_8; clear HO204; have HO_0 := n0_; have HO201 := n1_; have HB := n2_; have HO207 := n3_; clear n0_ n1_ n2_ n3_; clear ho hb hg hat))
                                              repeat (go_quiet (first | ((with_reducible refine gate_dst (N := 76) rfl ?_); refine Kd.R_lit (Kd.int .i64) _ 3 ?hg (N := 76) ?hd (xs := ([(wrap64 ((rd x0_3 0) / 16))] : List Int)) (inner := [.int .i64 (wrap64 ((rd x0_3 0) / 16))]) (ok := fun _ => True) (okp := fun _ => True) ?hr ?hp (fun _ hk => hk) trivial (Below.refl _ _) (Nat.le_refl _) (by simp) ?_; (case hd => rfl); (case hg => rfl); (case hr => first | (go_simp; done) | (go_simp; rfl)); (case hp => exact (Reps.one (show Kd.M (Kd.int .i64) _ _ _ (wrap64 ((rd x0_3 0) / 16)) [.int .i64 (wrap64 ((rd x0_3 0) / 16))] from rfl) (Reps.none _ _))); intro v200 w44 ho45 hb hg_ hnew_; clear hg_ hnew_; (first | rw [← Ny199.out] at ho45 | (simp only [Int.reduceToNat] at ho45; rw [← Ny199.out] at ho45)); have n0_ := Aside0.mk (Kd.V_elder' (by (with_reducible repeat (first | apply Kd.V_alloc | apply Kd.V_drewN | apply Kd.V_drew)); exact HO_0.out) (Kd.R_base ho45) hb); have n1_ := Aside0.mk (Kd.R_elder' (by (with_reducible repeat (first | apply Kd.R_alloc | apply Kd.R_drewN | apply Kd.R_drew)); exact HO_8.out) (Kd.R_base ho45) hb); have n2_ := Aside0.mk (Kd.R_lower (Kd.R_new' (Kd.R_newM (M := fun k_ => (w.heap.size ≤ k_)) ho45 (below_size (by repeat (first | (with_reducible first | exact HB.out | apply below_alloc | apply pw_below_drewN | apply below_drew1) | exact HB.out))) (fun k_ h_ => h_)) (Kd.R_lt (by (with_reducible repeat (first | apply Kd.R_alloc | apply Kd.R_drewN | apply Kd.R_drew)); exact HO_8.out))) (below_size (by repeat (first | (with_reducible first | exact HB.out | apply below_alloc | apply pw_below_drewN | apply below_drew1) | exact HB.out)))); have n3_ := Aside0.mk (below_step (by repeat (first | (with_reducible first | exact HB.out | apply below_alloc | apply pw_below_drewN | apply below_drew1) | exact HB.out)) hb); clear HO_0; clear HO_8; clear HB; have HO_0 := n0_; have HO_8 := n1_; have HO201 := n2_; have HB := n3_; clear n0_ n1_ n2_ n3_; clear hb ho45; obtain ⟨Ao46, co46, eo46⟩ := Kd.R_slice HO201.out; subst eo46) | (go_at_call 53; (with_reducible refine (slices_Repeat_int_int.calls _ _ y199 (wrap64 ((wrap64 (Go.bits .and .u8 (rd x0_3 0) 15)) + (wrap64 (rd y179 0)))) t202 _ ?side1 ?side2 A42.out).mono ?_); (case side1 => repeat (first | exact (Kd.R_reads' HO201.out).2.2 | (with_reducible refine Kd.C_alloc ?_ _) | (with_reducible refine Kd.C_drewN ?_ _) | (with_reducible refine Kd.C_drew ?_))); (case side2 => exact (Kd.R_reads' HO201.out).2.1); rintro e w47 ⟨v203, rfl, ho0, hb⟩; have n0_ := Aside0.mk (Kd.V_elder' (by (with_reducible repeat (first | apply Kd.V_alloc | apply Kd.V_drewN | apply Kd.V_drew)); exact HO_0.out) (Kd.R_base ho0) hb); have n1_ := Aside0.mk (Kd.R_elder' (by (with_reducible repeat (first | apply Kd.R_alloc | apply Kd.R_drewN | apply Kd.R_drew)); exact HO_8.out) (Kd.R_base ho0) hb); have n2_ := Aside0.mk (Kd.R_elder' (by (with_reducible repeat (first | apply Kd.R_alloc | apply Kd.R_drewN | apply Kd.R_drew)); exact HO201.out) (Kd.R_base ho0) hb); have n3_ := Aside0.mk (Kd.R_lower (Kd.R_new' (Kd.R_new' (Kd.R_newM (M := fun k_ => (w.heap.size ≤ k_)) ho0 (below_size (by repeat (first | (with_reducible first | exact HB.out | apply below_alloc | apply pw_below_drewN | apply below_drew1) | exact HB.out))) (fun k_ h_ => h_)) (Kd.R_lt (by (with_reducible repeat (first | apply Kd.R_alloc | apply Kd.R_drewN | apply Kd.R_drew)); exact HO_8.out))) (Kd.R_lt (by (with_reducible repeat (first | apply Kd.R_alloc | apply Kd.R_drewN | apply Kd.R_drew)); exact HO201.out))) (below_size (by repeat (first | (with_reducible first | exact HB.out | apply below_alloc | apply pw_below_drewN | apply below_drew1) | exact HB.out)))); have n4_ := Aside0.mk (below_step (by repeat (first | (with_reducible first | exact HB.out | apply below_alloc | apply pw_below_drewN | apply below_drew1) | exact HB.out)) hb); clear HO_0; clear HO_8; clear HO201; clear HB; have HO_0 := n0_; have HO_8 := n1_; have HO201 := n2_; have HO204 := n3_; have HB := n4_; clear n0_ n1_ n2_ n3_ n4_; (try clear hb); (try clear hb2); (try clear hk); (try clear hi); (try clear ho0); obtain ⟨Ao49, co49, eo49⟩ := Kd.R_slice HO204.out; subst eo49) | ((with_reducible refine gate_builtin (b := .append) (xs := #[.tmp 74, .tmp 78]) rfl ?_); at_builtin; refine Kd.R_append_rows (Kd.int .i64) (w0 := w) w.heap.size rfl (.tmp 74) (.tmp 78) 22 3 (.int .i64 0) 8 rfl Try.underlying22 info3 rfl (by decide) (by omega) u8 x8_3 t202 _ _ _ (fun k_ => (w.heap.size ≤ k_) ∧ some k_ ≠ (.slice Ao46 y199.length co46 : Value).ownBlock) (fun _ => False) rfl rfl ?aO ?aR (fun _ _ h => h) (fun _ h => h.elim) ?aF ?aB ?aS ?aL ?_; (case aR => repeat (first | exact (Kd.R_reads' HO204.out).2.2 | (with_reducible refine Kd.C_alloc ?_ _) | (with_reducible refine Kd.C_drewN ?_ _) | (with_reducible refine Kd.C_drew ?_))); (case aB => exact (by repeat (first | (with_reducible first | exact HB.out | apply below_alloc | apply pw_below_drewN | apply below_drew1) | exact HB.out))); (case aF => exact (fun k_ hk => ⟨(Nat.le_trans (below_size (by repeat (first | (with_reducible first | exact HB.out | apply below_alloc | apply pw_below_drewN | apply below_drew1) | exact HB.out))) hk), Kd.fresh' (Kd.R_lt (by (with_reducible repeat (first | apply Kd.R_alloc | apply Kd.R_drewN | apply Kd.R_drew)); exact HO201.out)) k_ hk⟩)); (case aO => exact (by (with_reducible repeat (first | apply Kd.R_alloc | apply Kd.R_drewN | apply Kd.R_drew)); exact Kd.R_mono HO_8.out (fun _ hk => ⟨hk.1.1, hk.1.2⟩))); (case aS => exact (below_size (by repeat (first | (with_reducible first | exact HB.out | apply below_alloc | apply pw_below_drewN | apply below_drew1) | exact HB.out)))); (case aL => have := LMc43.out; omega); intro v206 w48 ho hb hg hat; rw [← Ny205.out] at ho; have n0_ := Aside0.mk (Kd.V_afterv (ok := (fun k_ => (P0_ k_ ∨ w.heap.size ≤ k_) ∧ some k_ ≠ (.slice Ao46 y199.length co46 : Value).ownBlock ∧ some k_ ≠ (.slice Ao49 t202.length co49 : Value).ownBlock)) (by (with_reducible repeat (first | apply Kd.V_alloc | apply Kd.V_drewN | apply Kd.V_drew)); exact Kd.V_mono HO_0.out (fun _ hk => ⟨⟨hk.1.1.1, ⟨hk.1.2, hk.2⟩⟩, hk.1.1.2⟩)) hg hat); have n1_ := Aside0.mk (Kd.R_after (ok := (fun k_ => (w.heap.size ≤ k_) ∧ some k_ ≠ (.slice Ao49 t202.length co49 : Value).ownBlock)) (by (with_reducible repeat (first | apply Kd.R_alloc | apply Kd.R_drewN | apply Kd.R_drew)); exact Kd.R_mono HO201.out (fun _ hk => ⟨⟨hk.1.1.1, hk.2⟩, hk.1.2⟩)) hg hat); have n2_ := Aside0.mk (hb); have n3_ := Aside0.mk (ho); clear HO_0; clear HO201; clear HB; clear HO_8; clear HO204; have HO_0 := n0_; have HO201 := n1_; have HB := n2_; have HO207 := n3_; clear n0_ n1_ n2_ n3_; clear ho hb hg hat)); try go_wp2_with (first | ((with_reducible refine gate_dst (N := 76) rfl ?_); refine Kd.R_lit (Kd.int .i64) _ 3 ?hg (N := 76) ?hd (xs := ([(wrap64 ((rd x0_3 0) / 16))] : List Int)) (inner := [.int .i64 (wrap64 ((rd x0_3 0) / 16))]) (ok := fun _ => True) (okp := fun _ => True) ?hr ?hp (fun _ hk => hk) trivial (Below.refl _ _) (Nat.le_refl _) (by simp) ?_; (case hd => rfl); (case hg => rfl); (case hr => first | (go_simp; done) | (go_simp; rfl)); (case hp => exact (Reps.one (show Kd.M (Kd.int .i64) _ _ _ (wrap64 ((rd x0_3 0) / 16)) [.int .i64 (wrap64 ((rd x0_3 0) / 16))] from rfl) (Reps.none _ _))); intro v200 w44 ho45 hb hg_ hnew_; clear hg_ hnew_; (first | rw [← Ny199.out] at ho45 | (simp only [Int.reduceToNat] at ho45; rw [← Ny199.out] at ho45)); have n0_ := Aside0.mk (Kd.V_elder' (by (with_reducible repeat (first | apply Kd.V_alloc | apply Kd.V_drewN | apply Kd.V_drew)); exact HO_0.out) (Kd.R_base ho45) hb); have n1_ := Aside0.mk (Kd.R_elder' (by (with_reducible repeat (first | apply Kd.R_alloc | apply Kd.R_drewN | apply Kd.R_drew)); exact HO_8.out) (Kd.R_base ho45) hb); have n2_ := Aside0.mk (Kd.R_lower (Kd.R_new' (Kd.R_newM (M := fun k_ => (w.heap.size ≤ k_)) ho45 (below_size (by repeat (first | (with_reducible first | exact HB.out | apply below_alloc | apply pw_below_drewN | apply below_drew1) | exact HB.out))) (fun k_ h_ => h_)) (Kd.R_lt (by (with_reducible repeat (first | apply Kd.R_alloc | apply Kd.R_drewN | apply Kd.R_drew)); exact HO_8.out))) (below_size (by repeat (first | (with_reducible first | exact HB.out | apply below_alloc | apply pw_below_drewN | apply below_drew1) | exact HB.out)))); have n3_ := Aside0.mk (below_step (by repeat (first | (with_reducible first | exact HB.out | apply below_alloc | apply pw_below_drewN | apply below_drew1) | exact HB.out)) hb); clear HO_0; clear HO_8; clear HB; have HO_0 := n0_; have HO_8 := n1_; have HO201 := n2_; have HB := n3_; clear n0_ n1_ n2_ n3_; clear hb ho45; obtain ⟨Ao46, co46, eo46⟩ := Kd.R_slice HO201.out; subst eo46) | (go_at_call 53; (with_reducible refine (slices_Repeat_int_int.calls _ _ y199 (wrap64 ((wrap64 (Go.bits .and .u8 (rd x0_3 0) 15)) + (wrap64 (rd y179 0)))) t202 _ ?side1 ?side2 A42.out).mono ?_); (case side1 => repeat (first | exact (Kd.R_reads' HO201.out).2.2 | (with_reducible refine Kd.C_alloc ?_ _) | (with_reducible refine Kd.C_drewN ?_ _) | (with_reducible refine Kd.C_drew ?_))); (case side2 => exact (Kd.R_reads' HO201.out).2.1); rintro e w47 ⟨v203, rfl, ho0, hb⟩; have n0_ := Aside0.mk (Kd.V_elder' (by (with_reducible repeat (first | apply Kd.V_alloc | apply Kd.V_drewN | apply Kd.V_drew)); exact HO_0.out) (Kd.R_base ho0) hb); have n1_ := Aside0.mk (Kd.R_elder' (by (with_reducible repeat (first | apply Kd.R_alloc | apply Kd.R_drewN | apply Kd.R_drew)); exact HO_8.out) (Kd.R_base ho0) hb); have n2_ := Aside0.mk (Kd.R_elder' (by (with_reducible repeat (first | apply Kd.R_alloc | apply Kd.R_drewN | apply Kd.R_drew)); exact HO201.out) (Kd.R_base ho0) hb); have n3_ := Aside0.mk (Kd.R_lower (Kd.R_new' (Kd.R_new' (Kd.R_newM (M := fun k_ => (w.heap.size ≤ k_)) ho0 (below_size (by repeat (first | (with_reducible first | exact HB.out | apply below_alloc | apply pw_below_drewN | apply below_drew1) | exact HB.out))) (fun k_ h_ => h_)) (Kd.R_lt (by (with_reducible repeat (first | apply Kd.R_alloc | apply Kd.R_drewN | apply Kd.R_drew)); exact HO_8.out))) (Kd.R_lt (by (with_reducible repeat (first | apply Kd.R_alloc | apply Kd.R_drewN | apply Kd.R_drew)); exact HO201.out))) (below_size (by repeat (first | (with_reducible first | exact HB.out | apply below_alloc | apply pw_below_drewN | apply below_drew1) | exact HB.out)))); have n4_ := Aside0.mk (below_step (by repeat (first | (with_reducible first | exact HB.out | apply below_alloc | apply pw_below_drewN | apply below_drew1) | exact HB.out)) hb); clear HO_0; clear HO_8; clear HO201; clear HB; have HO_0 := n0_; have HO_8 := n1_; have HO201 := n2_; have HO204 := n3_; have HB := n4_; clear n0_ n1_ n2_ n3_ n4_; (try clear hb); (try clear hb2); (try clear hk); (try clear hi); (try clear ho0); obtain ⟨Ao49, co49, eo49⟩ := Kd.R_slice HO204.out; subst eo49) | ((with_reducible refine gate_builtin (b := .append) (xs := #[.tmp 74, .tmp 78]) rfl ?_); at_builtin; refine Kd.R_append_rows (Kd.int .i64) (w0 := w) w.heap.size rfl (.tmp 74) (.tmp 78) 22 3 (.int .i64 0) 8 rfl Try.underlying22 info3 rfl (by decide) (by omega) u8 x8_3 t202 _ _ _ (fun k_ => (w.heap.size ≤ k_) ∧ some k_ ≠ (.slice Ao46 y199.length co46 : Value).ownBlock) (fun _ => False) rfl rfl ?aO ?aR (fun _ _ h => h) (fun _ h => h.elim) ?aF ?aB ?aS ?aL ?_; (case aR => repeat (first | exact (Kd.R_reads' HO204.out).2.2 | (with_reducible refine Kd.C_alloc ?_ _) | (with_reducible refine Kd.C_drewN ?_ _) | (with_reducible refine Kd.C_drew ?_))); (case aB => exact (by repeat (first | (with_reducible first | exact HB.out | apply below_alloc | apply pw_below_drewN | apply below_drew1) | exact HB.out))); (case aF => exact (fun k_ hk => ⟨(Nat.le_trans (below_size (by repeat (first | (with_reducible first | exact HB.out | apply below_alloc | apply pw_below_drewN | apply below_drew1) | exact HB.out))) hk), Kd.fresh' (Kd.R_lt (by (with_reducible repeat (first | apply Kd.R_alloc | apply Kd.R_drewN | apply Kd.R_drew)); exact HO201.out)) k_ hk⟩)); (case aO => exact (by (with_reducible repeat (first | apply Kd.R_alloc | apply Kd.R_drewN | apply Kd.R_drew)); exact Kd.R_mono HO_8.out (fun _ hk => ⟨hk.1.1, hk.1.2⟩))); (case aS => exact (below_size (by repeat (first | (with_reducible first | exact HB.out | apply below_alloc | apply pw_below_drewN | apply below_drew1) | exact HB.out)))); (case aL => have := LMc43.out; omega); intro v206 w48 ho hb hg hat; rw [← Ny205.out] at ho; have n0_ := Aside0.mk (Kd.V_afterv (ok := (fun k_ => (P0_ k_ ∨ w.heap.size ≤ k_) ∧ some k_ ≠ (.slice Ao46 y199.length co46 : Value).ownBlock ∧ some k_ ≠ (.slice Ao49 t202.length co49 : Value).ownBlock)) (by (with_reducible repeat (first | apply Kd.V_alloc | apply Kd.V_drewN | apply Kd.V_drew)); exact Kd.V_mono HO_0.out (fun _ hk => ⟨⟨hk.1.1.1, ⟨hk.1.2, hk.2⟩⟩, hk.1.1.2⟩)) hg hat); have n1_ := Aside0.mk (Kd.R_after (ok := (fun k_ => (w.heap.size ≤ k_) ∧ some k_ ≠ (.slice Ao49 t202.length co49 : Value).ownBlock)) (by (with_reducible repeat (first | apply Kd.R_alloc | apply Kd.R_drewN | apply Kd.R_drew)); exact Kd.R_mono HO201.out (fun _ hk => ⟨⟨hk.1.1.1, hk.2⟩, hk.1.2⟩)) hg hat); have n2_ := Aside0.mk (hb); have n3_ := Aside0.mk (ho); clear HO_0; clear HO201; clear HB; clear HO_8; clear HO204; have HO_0 := n0_; have HO201 := n1_; have HB := n2_; have HO207 := n3_; clear n0_ n1_ n2_ n3_; clear ho hb hg hat)))
                                              go_roundg kj34
                                              case measure => have := HJ3.out; have := HK2.out; have := HK3.out; have := HJ34.out; omega
                                              case rel => exact ⟨(y194), (y205), ((wrap64 ((rd x0_3 0) / 16))), (wrap64 (x10_3 - (wrap64 ((wrap64 (Go.bits .and .u8 (rd x0_3 0) 15)) + (wrap64 (rd y179 0)))))), (by first | rfl | (simp; done) | (simp [*]; done) | (simp; kernel_rfl)), (by first | rfl | (simp; done) | (simp [*]; done) | (simp; kernel_rfl)), H', ⟨by have := HJ3.out; have := HK2.out; have := HK3.out; have := HJ34.out; omega⟩, ⟨by (with_reducible repeat (first | apply Kd.V_alloc | apply Kd.V_drewN | apply Kd.V_drew)); exact Kd.V_mono HO_0.out (fun _ hk => ⟨hk.1.1, hk.2⟩)⟩, ⟨by (with_reducible repeat (first | apply Kd.R_alloc | apply Kd.R_drewN | apply Kd.R_drew)); exact Kd.R_mono HO207.out (fun _ hk => hk.1)⟩, ⟨by repeat (first | (with_reducible first | exact HB.out | apply below_alloc | apply pw_below_drewN | apply below_drew1) | exact HB.out)⟩⟩
                                            · rw [if_neg c43] at H
                                              exact absurd H (by simp)
                                  · rw [if_neg c34] at H
                                    exact absurd H (by simp)
                                · rw [if_neg c33] at H
                                  exact absurd H (by simp)
                            · rw [if_neg c29] at H
                              have c29b0 : ((wrap64 (Go.bits .and .u8 (rd x0_3 0) 15)) == 15) = false := beq_eq_false_iff_ne.mpr c29
                              have c29b1 : ((wrap64 (Go.bits .and .u8 (rd x0_3 0) 15)) != 15) = true := bne_iff_ne.mpr c29
                              by_cases c50 : (wrap64 (Go.bits .and .u8 (rd x0_3 0) 15)) ≥ x10_3
                              · rw [if_pos c50] at H
                                have c50b0 : decide (x10_3 ≤ (wrap64 (Go.bits .and .u8 (rd x0_3 0) 15))) = true := decide_eq_true c50
                                clear c50
                                simp only [Option.some.injEq, Prod.mk.injEq] at H
                                obtain ⟨rfl, rfl⟩ := H
                                obtain ⟨Ao51, co51, eo51⟩ := Kd.V_slice HO_0.out
                                subst eo51
                                have p177 : 0 ≤ (0 : Int) := (by omega)
                                have q177 : 0 < (x0_3.length : Int) := of_decide_eq_true (by first | (with_reducible assumption) | assumption)
                                obtain ⟨ad177, e177, hx177_0⟩ := Kd.at_int (Kd.V_reads' HO_0.out).2.2 0 p177 q177
                                cases e177
                                have qi177 : (0 < x0_3.length) = True := eq_true (by omega)
                                (try rw [show ((0 : Int)).toNat = 0 from rfl] at hx177_0)
                                (try rw [Addr.add_zero'] at hx177_0)
                                replace p177 := eq_true p177
                                replace q177 := eq_true q177
                                have p178 : 0 ≤ (0 : Int) := (by omega)
                                have q178 : 0 < (x0_3.length : Int) := of_decide_eq_true (by first | (with_reducible assumption) | assumption)
                                obtain ⟨ad178, e178, hx178_0⟩ := Kd.at_int (Kd.V_reads' HO_0.out).2.2 0 p178 q178
                                obtain rfl : ad177 = ad178 := (by injection e178)
                                have qi178 : (0 < x0_3.length) = True := eq_true (by omega)
                                (try rw [show ((0 : Int)).toNat = 0 from rfl] at hx178_0)
                                (try rw [Addr.add_zero'] at hx178_0)
                                replace p178 := eq_true p178
                                replace q178 := eq_true q178
                                have q52 : (1 : Int) ≤ ((x0_3.length : Int) : Int) := of_decide_eq_true (by first | (with_reducible assumption) | assumption)
                                obtain ⟨i052, hi052, _, hsz52, _⟩ := info_parts info5
                                have hroom52 : x0_3.length ≤ co51 := (Kd.V_reads' HO_0.out).2.1
                                have hC52 : Kd.F (Kd.int .u8) _ _ (some ad177) x0_3.length x0_3 := (Kd.V_at (base := w.heap.size) HO_0.out).2.2
                                have hcut52 := cut_from (P := Try.prog) 23 5 .i64 Try.underlying23 hi052 1 hsz52 (some ad177) x0_3.length co51 1 (by omega) q52
                                have hr52 := Kd.F_cut (m := (1 : Int).toNat) (c := co51) hC52 (by omega) hroom52
                                obtain ⟨A52, hA52⟩ : ∃ A1, A1 = (if co51 = (1 : Int).toNat then (some ad177) else ((some ad177) : Option Addr).map (·.add ((1 : Int).toNat * 1))) := ⟨_, rfl⟩
                                obtain ⟨c52, hc52⟩ : ∃ c1, c1 = co51 - (1 : Int).toNat := ⟨_, rfl⟩
                                have hy52 : y179.length = x0_3.length - (1 : Int).toNat := (by rw [Ny179.out, List.length_drop] <;> omega)
                                rw [show (x0_3).drop (1 : Int).toNat = y179 from Ny179.out.symm] at hr52
                                replace hr52 : Kd.F (Kd.int .u8) _ _ A52 y179.length y179 := (by rw [hA52]; exact hr52)
                                rw [← hy52, ← hA52, ← hc52] at hcut52
                                have HO183 := Aside0.mk (show Kd.V (Kd.int .u8) 5 _ w.heap.size _ (.slice A52 y179.length c52) y179 from Kd.V_mk (by rw [hy52, hc52]; exact Nat.sub_le_sub_right hroom52 _) hr52)
                                have HC183 := Aside0.mk (show y179.length ≤ c52 from by rw [hy52, hc52]; exact Nat.sub_le_sub_right hroom52 _)
                                clear hr52 hC52 hroom52 hi052 hsz52 hc52
                                have KY52 := Aside0.mk hy52
                                have KA52 := Aside0.mk hA52
                                clear hy52 hA52
                                replace q52 := eq_true q52
                                go_wp2
                                repeat (go_quiet (fail); try go_wp2)
                                go_ret2
                                exact ⟨_, by first | rfl | (simp [errW_none, errW_some] <;> rfl) | (simp [*, errW_none, errW_some] <;> rfl), by first | exact Kd.R_nil _ _ _ _ _ | exact Kd.N_nil _ _ _ _ _ | exact Kd.V_nil _ _ _ _ _ | exact Kd.Q_nil _ _ _ _ _ | exact Kd.S_nil _ _ _ _ _, by repeat (first | (with_reducible first | exact HB.out | apply below_alloc | apply pw_below_drewN | apply below_drew1) | exact HB.out)⟩
                              · rw [if_neg c50] at H
                                have c50b0 : decide (x10_3 ≤ (wrap64 (Go.bits .and .u8 (rd x0_3 0) 15))) = false := decide_eq_false c50
                                clear c50
                                by_cases c53 : (wrap64 ((rd x0_3 0) / 16)) = x9_3
                                · rw [if_pos c53] at H
                                  have c53b0 : ((wrap64 ((rd x0_3 0) / 16)) == x9_3) = true := beq_iff_eq.mpr c53
                                  have c53b1 : ((wrap64 ((rd x0_3 0) / 16)) != x9_3) = false := bne_eq_false_iff_eq.mpr c53
                                  clear c53
                                  simp only [Option.some.injEq, Prod.mk.injEq] at H
                                  obtain ⟨rfl, rfl⟩ := H
                                  obtain ⟨Ao54, co54, eo54⟩ := Kd.V_slice HO_0.out
                                  subst eo54
                                  have p177 : 0 ≤ (0 : Int) := (by omega)
                                  have q177 : 0 < (x0_3.length : Int) := of_decide_eq_true (by first | (with_reducible assumption) | assumption)
                                  obtain ⟨ad177, e177, hx177_0⟩ := Kd.at_int (Kd.V_reads' HO_0.out).2.2 0 p177 q177
                                  cases e177
                                  have qi177 : (0 < x0_3.length) = True := eq_true (by omega)
                                  (try rw [show ((0 : Int)).toNat = 0 from rfl] at hx177_0)
                                  (try rw [Addr.add_zero'] at hx177_0)
                                  replace p177 := eq_true p177
                                  replace q177 := eq_true q177
                                  have p178 : 0 ≤ (0 : Int) := (by omega)
                                  have q178 : 0 < (x0_3.length : Int) := of_decide_eq_true (by first | (with_reducible assumption) | assumption)
                                  obtain ⟨ad178, e178, hx178_0⟩ := Kd.at_int (Kd.V_reads' HO_0.out).2.2 0 p178 q178
                                  obtain rfl : ad177 = ad178 := (by injection e178)
                                  have qi178 : (0 < x0_3.length) = True := eq_true (by omega)
                                  (try rw [show ((0 : Int)).toNat = 0 from rfl] at hx178_0)
                                  (try rw [Addr.add_zero'] at hx178_0)
                                  replace p178 := eq_true p178
                                  replace q178 := eq_true q178
                                  have q55 : (1 : Int) ≤ ((x0_3.length : Int) : Int) := of_decide_eq_true (by first | (with_reducible assumption) | assumption)
                                  obtain ⟨i055, hi055, _, hsz55, _⟩ := info_parts info5
                                  have hroom55 : x0_3.length ≤ co54 := (Kd.V_reads' HO_0.out).2.1
                                  have hC55 : Kd.F (Kd.int .u8) _ _ (some ad177) x0_3.length x0_3 := (Kd.V_at (base := w.heap.size) HO_0.out).2.2
                                  have hcut55 := cut_from (P := Try.prog) 23 5 .i64 Try.underlying23 hi055 1 hsz55 (some ad177) x0_3.length co54 1 (by omega) q55
                                  have hr55 := Kd.F_cut (m := (1 : Int).toNat) (c := co54) hC55 (by omega) hroom55
                                  obtain ⟨A55, hA55⟩ : ∃ A1, A1 = (if co54 = (1 : Int).toNat then (some ad177) else ((some ad177) : Option Addr).map (·.add ((1 : Int).toNat * 1))) := ⟨_, rfl⟩
                                  obtain ⟨c55, hc55⟩ : ∃ c1, c1 = co54 - (1 : Int).toNat := ⟨_, rfl⟩
                                  have hy55 : y179.length = x0_3.length - (1 : Int).toNat := (by rw [Ny179.out, List.length_drop] <;> omega)
                                  rw [show (x0_3).drop (1 : Int).toNat = y179 from Ny179.out.symm] at hr55
                                  replace hr55 : Kd.F (Kd.int .u8) _ _ A55 y179.length y179 := (by rw [hA55]; exact hr55)
                                  rw [← hy55, ← hA55, ← hc55] at hcut55
                                  have HO183 := Aside0.mk (show Kd.V (Kd.int .u8) 5 _ w.heap.size _ (.slice A55 y179.length c55) y179 from Kd.V_mk (by rw [hy55, hc55]; exact Nat.sub_le_sub_right hroom55 _) hr55)
                                  have HC183 := Aside0.mk (show y179.length ≤ c55 from by rw [hy55, hc55]; exact Nat.sub_le_sub_right hroom55 _)
                                  clear hr55 hC55 hroom55 hi055 hsz55 hc55
                                  have KY55 := Aside0.mk hy55
                                  have KA55 := Aside0.mk hA55
                                  clear hy55 hA55
                                  replace q55 := eq_true q55
                                  go_wp2
                                  repeat (go_quiet (fail); try go_wp2)
                                  go_ret2
                                  exact ⟨_, by first | rfl | (simp [errW_none, errW_some] <;> rfl) | (simp [*, errW_none, errW_some] <;> rfl), by first | exact Kd.R_nil _ _ _ _ _ | exact Kd.N_nil _ _ _ _ _ | exact Kd.V_nil _ _ _ _ _ | exact Kd.Q_nil _ _ _ _ _ | exact Kd.S_nil _ _ _ _ _, by repeat (first | (with_reducible first | exact HB.out | apply below_alloc | apply pw_below_drewN | apply below_drew1) | exact HB.out)⟩
                                · rw [if_neg c53] at H
                                  have c53b0 : ((wrap64 ((rd x0_3 0) / 16)) == x9_3) = false := beq_eq_false_iff_ne.mpr c53
                                  have c53b1 : ((wrap64 ((rd x0_3 0) / 16)) != x9_3) = true := bne_iff_ne.mpr c53
                                  obtain ⟨y208, hy208⟩ : ∃ y_ : List Int, y_ = (([wrap64 ((rd x0_3 0) / 16)] : List Int)) := ⟨_, rfl⟩
                                  replace H : ((slices_Repeat_int_int.f y208 (wrap64 (Go.bits .and .u8 (rd x0_3 0) 15))).bind fun t211 => (if x8_3.length + t211.length < 17592186044416 then (bitmap_Pixels.l1 k3 y179 a1 (x8_3 ++ t211) (wrap64 ((rd x0_3 0) / 16)) (wrap64 (x10_3 - (wrap64 (Go.bits .and .u8 (rd x0_3 0) 15)))) a2 x22_2) else (none))) = some (r1, r2) := by first | (rw [hy208]; with_reducible exact H) | (have H2_ := (Option.bind_some _ _).symm.trans H; rw [hy208]; with_reducible exact H2_) | (have H2_ := (Option.bind_some _ _).symm.trans H; with_reducible exact H2_) | with_reducible exact H | (rw [hy208]; exact H) | exact H
                                  have Ny208 := Aside0.mk hy208
                                  clear hy208
                                  replace H := Option.bind_eq_some_iff.mp H
                                  obtain ⟨t211, A560, H⟩ := H
                                  replace H : (if x8_3.length + t211.length < 17592186044416 then (bitmap_Pixels.l1 k3 y179 a1 (x8_3 ++ t211) (wrap64 ((rd x0_3 0) / 16)) (wrap64 (x10_3 - (wrap64 (Go.bits .and .u8 (rd x0_3 0) 15)))) a2 x22_2) else (none)) = some (r1, r2) := H
                                  have A56 := Aside0.mk A560
                                  clear A560
                                  by_cases c57 : x8_3.length + t211.length < 17592186044416
                                  · rw [if_pos c57] at H
                                    have LMc57 := Aside0.mk c57
                                    clear c57
                                    obtain ⟨y214, hy214⟩ : ∃ y_ : List Int, y_ = (x8_3 ++ t211) := ⟨_, rfl⟩
                                    replace H : (bitmap_Pixels.l1 k3 y179 a1 y214 (wrap64 ((rd x0_3 0) / 16)) (wrap64 (x10_3 - (wrap64 (Go.bits .and .u8 (rd x0_3 0) 15)))) a2 x22_2) = some (r1, r2) := by first | (rw [hy214]; with_reducible exact H) | (have H2_ := (Option.bind_some _ _).symm.trans H; rw [hy214]; with_reducible exact H2_) | (have H2_ := (Option.bind_some _ _).symm.trans H; with_reducible exact H2_) | with_reducible exact H | (rw [hy214]; exact H) | exact H
                                    have Ny214 := Aside0.mk hy214
                                    clear hy214
                                    have H' := Aside0.mk H
                                    clear H
                                    obtain ⟨Ao58, co58, eo58⟩ := Kd.V_slice HO_0.out
                                    subst eo58
                                    have p177 : 0 ≤ (0 : Int) := (by omega)
                                    have q177 : 0 < (x0_3.length : Int) := of_decide_eq_true (by first | (with_reducible assumption) | assumption)
                                    obtain ⟨ad177, e177, hx177_0⟩ := Kd.at_int (Kd.V_reads' HO_0.out).2.2 0 p177 q177
                                    cases e177
                                    have qi177 : (0 < x0_3.length) = True := eq_true (by omega)
                                    (try rw [show ((0 : Int)).toNat = 0 from rfl] at hx177_0)
                                    (try rw [Addr.add_zero'] at hx177_0)
                                    replace p177 := eq_true p177
                                    replace q177 := eq_true q177
                                    have p178 : 0 ≤ (0 : Int) := (by omega)
                                    have q178 : 0 < (x0_3.length : Int) := of_decide_eq_true (by first | (with_reducible assumption) | assumption)
                                    obtain ⟨ad178, e178, hx178_0⟩ := Kd.at_int (Kd.V_reads' HO_0.out).2.2 0 p178 q178
                                    obtain rfl : ad177 = ad178 := (by injection e178)
                                    have qi178 : (0 < x0_3.length) = True := eq_true (by omega)
                                    (try rw [show ((0 : Int)).toNat = 0 from rfl] at hx178_0)
                                    (try rw [Addr.add_zero'] at hx178_0)
                                    replace p178 := eq_true p178
                                    replace q178 := eq_true q178
                                    have q59 : (1 : Int) ≤ ((x0_3.length : Int) : Int) := of_decide_eq_true (by first | (with_reducible assumption) | assumption)
                                    obtain ⟨i059, hi059, _, hsz59, _⟩ := info_parts info5
                                    have hroom59 : x0_3.length ≤ co58 := (Kd.V_reads' HO_0.out).2.1
                                    have hC59 : Kd.F (Kd.int .u8) _ _ (some ad177) x0_3.length x0_3 := (Kd.V_at (base := w.heap.size) HO_0.out).2.2
                                    have hcut59 := cut_from (P := Try.prog) 23 5 .i64 Try.underlying23 hi059 1 hsz59 (some ad177) x0_3.length co58 1 (by omega) q59
                                    have hr59 := Kd.F_cut (m := (1 : Int).toNat) (c := co58) hC59 (by omega) hroom59
                                    obtain ⟨A59, hA59⟩ : ∃ A1, A1 = (if co58 = (1 : Int).toNat then (some ad177) else ((some ad177) : Option Addr).map (·.add ((1 : Int).toNat * 1))) := ⟨_, rfl⟩
                                    obtain ⟨c59, hc59⟩ : ∃ c1, c1 = co58 - (1 : Int).toNat := ⟨_, rfl⟩
                                    have hy59 : y179.length = x0_3.length - (1 : Int).toNat := (by rw [Ny179.out, List.length_drop] <;> omega)
                                    rw [show (x0_3).drop (1 : Int).toNat = y179 from Ny179.out.symm] at hr59
                                    replace hr59 : Kd.F (Kd.int .u8) _ _ A59 y179.length y179 := (by rw [hA59]; exact hr59)
                                    rw [← hy59, ← hA59, ← hc59] at hcut59
                                    have HO183 := Aside0.mk (show Kd.V (Kd.int .u8) 5 _ w.heap.size _ (.slice A59 y179.length c59) y179 from Kd.V_mk (by rw [hy59, hc59]; exact Nat.sub_le_sub_right hroom59 _) hr59)
                                    have HC183 := Aside0.mk (show y179.length ≤ c59 from by rw [hy59, hc59]; exact Nat.sub_le_sub_right hroom59 _)
                                    clear hr59 hC59 hroom59 hi059 hsz59 hc59
                                    have KY59 := Aside0.mk hy59
                                    have KA59 := Aside0.mk hA59
                                    clear hy59 hA59
                                    replace q59 := eq_true q59
                                    go_wp2_with (first | ((with_reducible refine gate_dst (N := 76) rfl ?_); refine Kd.R_lit (Kd.int .i64) _ 3 ?hg (N := 76) ?hd (xs := ([wrap64 ((rd x0_3 0) / 16)] : List Int)) (inner := [.int .i64 (wrap64 ((rd x0_3 0) / 16))]) (ok := fun _ => True) (okp := fun _ => True) ?hr ?hp (fun _ hk => hk) trivial (Below.refl _ _) (Nat.le_refl _) (by simp) ?_; (case hd => rfl); (case hg => rfl); (case hr => first | (go_simp; done) | (go_simp; rfl)); (case hp => exact (Reps.one (show Kd.M (Kd.int .i64) _ _ _ (wrap64 ((rd x0_3 0) / 16)) [.int .i64 (wrap64 ((rd x0_3 0) / 16))] from rfl) (Reps.none _ _))); intro v209 w60 ho61 hb hg_ hnew_; clear hg_ hnew_; (first | rw [← Ny208.out] at ho61 | (simp only [Int.reduceToNat] at ho61; rw [← Ny208.out] at ho61)); have n0_ := Aside0.mk (Kd.V_elder' (by (with_reducible repeat (first | apply Kd.V_alloc | apply Kd.V_drewN | apply Kd.V_drew)); exact HO_0.out) (Kd.R_base ho61) hb); have n1_ := Aside0.mk (Kd.R_elder' (by (with_reducible repeat (first | apply Kd.R_alloc | apply Kd.R_drewN | apply Kd.R_drew)); exact HO_8.out) (Kd.R_base ho61) hb); have n2_ := Aside0.mk (Kd.V_elder' (by (with_reducible repeat (first | apply Kd.V_alloc | apply Kd.V_drewN | apply Kd.V_drew)); exact HO183.out) (Kd.R_base ho61) hb); have n3_ := Aside0.mk (Kd.R_lower (Kd.R_new' (Kd.R_newM (M := fun k_ => (w.heap.size ≤ k_)) ho61 (below_size (by repeat (first | (with_reducible first | exact HB.out | apply below_alloc | apply pw_below_drewN | apply below_drew1) | exact HB.out))) (fun k_ h_ => h_)) (Kd.R_lt (by (with_reducible repeat (first | apply Kd.R_alloc | apply Kd.R_drewN | apply Kd.R_drew)); exact HO_8.out))) (below_size (by repeat (first | (with_reducible first | exact HB.out | apply below_alloc | apply pw_below_drewN | apply below_drew1) | exact HB.out)))); have n4_ := Aside0.mk (below_step (by repeat (first | (with_reducible first | exact HB.out | apply below_alloc | apply pw_below_drewN | apply below_drew1) | exact HB.out)) hb); clear HO_0; clear HO_8; clear HO183; clear HB; have HO_0 := n0_; have HO_8 := n1_; have HO183 := n2_; have HO210 := n3_; have HB := n4_; clear n0_ n1_ n2_ n3_ n4_; clear hb ho61; obtain ⟨Ao62, co62, eo62⟩ := Kd.R_slice HO210.out; subst eo62) | (go_at_call 53; (with_reducible refine (slices_Repeat_int_int.calls _ _ y208 (wrap64 (Go.bits .and .u8 (rd x0_3 0) 15)) t211 _ ?side1 ?side2 A56.out).mono ?_); (case side1 => repeat (first | exact (Kd.R_reads' HO210.out).2.2 | (with_reducible refine Kd.C_alloc ?_ _) | (with_reducible refine Kd.C_drewN ?_ _) | (with_reducible refine Kd.C_drew ?_))); (case side2 => exact (Kd.R_reads' HO210.out).2.1); rintro e w63 ⟨v212, rfl, ho0, hb⟩; have n0_ := Aside0.mk (Kd.V_elder' (by (with_reducible repeat (first | apply Kd.V_alloc | apply Kd.V_drewN | apply Kd.V_drew)); exact HO_0.out) (Kd.R_base ho0) hb); have n1_ := Aside0.mk (Kd.R_elder' (by (with_reducible repeat (first | apply Kd.R_alloc | apply Kd.R_drewN | apply Kd.R_drew)); exact HO_8.out) (Kd.R_base ho0) hb); have n2_ := Aside0.mk (Kd.V_elder' (by (with_reducible repeat (first | apply Kd.V_alloc | apply Kd.V_drewN | apply Kd.V_drew)); exact HO183.out) (Kd.R_base ho0) hb); have n3_ := Aside0.mk (Kd.R_elder' (by (with_reducible repeat (first | apply Kd.R_alloc | apply Kd.R_drewN | apply Kd.R_drew)); exact HO210.out) (Kd.R_base ho0) hb); have n4_ := Aside0.mk (Kd.R_lower (Kd.R_new' (Kd.R_new' (Kd.R_newM (M := fun k_ => (w.heap.size ≤ k_)) ho0 (below_size (by repeat (first | (with_reducible first | exact HB.out | apply below_alloc | apply pw_below_drewN | apply below_drew1) | exact HB.out))) (fun k_ h_ => h_)) (Kd.R_lt (by (with_reducible repeat (first | apply Kd.R_alloc | apply Kd.R_drewN | apply Kd.R_drew)); exact HO_8.out))) (Kd.R_lt (by (with_reducible repeat (first | apply Kd.R_alloc | apply Kd.R_drewN | apply Kd.R_drew)); exact HO210.out))) (below_size (by repeat (first | (with_reducible first | exact HB.out | apply below_alloc | apply pw_below_drewN | apply below_drew1) | exact HB.out)))); have n5_ := Aside0.mk (below_step (by repeat (first | (with_reducible first | exact HB.out | apply below_alloc | apply pw_below_drewN | apply below_drew1) | exact HB.out)) hb); clear HO_0; clear HO_8; clear HO183; clear HO210; clear HB; have HO_0 := n0_; have HO_8 := n1_; have HO183 := n2_; have HO210 := n3_; have HO213 := n4_; have HB := n5_; clear n0_ n1_ n2_ n3_ n4_ n5_; (try clear hb); (try clear hb2); (try clear hk); (try clear hi); (try clear ho0); obtain ⟨Ao65, co65, eo65⟩ := Kd.R_slice HO213.out; subst eo65) | ((with_reducible refine gate_builtin (b := .append) (xs := #[.tmp 74, .tmp 78]) rfl ?_); at_builtin; refine Kd.R_append_rows (Kd.int .i64) (w0 := w) w.heap.size rfl (.tmp 74) (.tmp 78) 22 3 (.int .i64 0) 8 rfl Try.underlying22 info3 rfl (by decide) (by omega) u8 x8_3 t211 _ _ _ (fun k_ => (w.heap.size ≤ k_) ∧ some k_ ≠ (.slice Ao62 y208.length co62 : Value).ownBlock) (fun _ => False) rfl rfl ?aO ?aR (fun _ _ h => h) (fun _ h => h.elim) ?aF ?aB ?aS ?aL ?_; (case aR => repeat (first | exact (Kd.R_reads' HO213.out).2.2 | (with_reducible refine Kd.C_alloc ?_ _) | (with_reducible refine Kd.C_drewN ?_ _) | (with_reducible refine Kd.C_drew ?_))); (case aB => exact (by repeat (first | (with_reducible first | exact HB.out | apply below_alloc | apply pw_below_drewN | apply below_drew1) | exact HB.out))); (case aF => exact (fun k_ hk => ⟨(Nat.le_trans (below_size (by repeat (first | (with_reducible first | exact HB.out | apply below_alloc | apply pw_below_drewN | apply below_drew1) | exact HB.out))) hk), Kd.fresh' (Kd.R_lt (by (with_reducible repeat (first | apply Kd.R_alloc | apply Kd.R_drewN | apply Kd.R_drew)); exact HO210.out)) k_ hk⟩)); (case aO => exact (by (with_reducible repeat (first | apply Kd.R_alloc | apply Kd.R_drewN | apply Kd.R_drew)); exact Kd.R_mono HO_8.out (fun _ hk => ⟨hk.1.1, hk.1.2⟩))); (case aS => exact (below_size (by repeat (first | (with_reducible first | exact HB.out | apply below_alloc | apply pw_below_drewN | apply below_drew1) | exact HB.out)))); (case aL => have := LMc57.out; omega); intro v215 w64 ho hb hg hat; rw [← Ny214.out] at ho; have n0_ := Aside0.mk (Kd.V_afterv (ok := (fun k_ => (P0_ k_ ∨ w.heap.size ≤ k_) ∧ some k_ ≠ (.slice Ao62 y208.length co62 : Value).ownBlock ∧ some k_ ≠ (.slice Ao65 t211.length co65 : Value).ownBlock)) (by (with_reducible repeat (first | apply Kd.V_alloc | apply Kd.V_drewN | apply Kd.V_drew)); exact Kd.V_mono HO_0.out (fun _ hk => ⟨⟨hk.1.1.1, ⟨hk.1.2, hk.2⟩⟩, hk.1.1.2⟩)) hg hat); have n1_ := Aside0.mk (Kd.V_afterv (ok := (fun k_ => (P0_ k_ ∨ w.heap.size ≤ k_) ∧ some k_ ≠ (.slice Ao62 y208.length co62 : Value).ownBlock ∧ some k_ ≠ (.slice Ao65 t211.length co65 : Value).ownBlock)) (by (with_reducible repeat (first | apply Kd.V_alloc | apply Kd.V_drewN | apply Kd.V_drew)); exact Kd.V_mono HO183.out (fun _ hk => ⟨⟨hk.1.1.1, ⟨hk.1.2, hk.2⟩⟩, hk.1.1.2⟩)) hg hat); have n2_ := Aside0.mk (Kd.R_after (ok := (fun k_ => (w.heap.size ≤ k_) ∧ some k_ ≠ (.slice Ao65 t211.length co65 : Value).ownBlock)) (by (with_reducible repeat (first | apply Kd.R_alloc | apply Kd.R_drewN | apply Kd.R_drew)); exact Kd.R_mono HO210.out (fun _ hk => ⟨⟨hk.1.1.1, hk.2⟩, hk.1.2⟩)) hg hat); have n3_ := Aside0.mk (hb); have n4_ := Aside0.mk (ho); clear HO_0; clear HO183; clear HO210; clear HB; clear HO_8; clear HO213; have HO_0 := n0_; have HO183 := n1_; have HO210 := n2_; have HB := n3_; have HO216 := n4_; clear n0_ n1_ n2_ n3_ n4_; clear ho hb hg hat))
                                    repeat (go_quiet (first | ((with_reducible refine gate_dst (N := 76) rfl ?_); refine Kd.R_lit (Kd.int .i64) _ 3 ?hg (N := 76) ?hd (xs := ([wrap64 ((rd x0_3 0) / 16)] : List Int)) (inner := [.int .i64 (wrap64 ((rd x0_3 0) / 16))]) (ok := fun _ => True) (okp := fun _ => True) ?hr ?hp (fun _ hk => hk) trivial (Below.refl _ _) (Nat.le_refl _) (by simp) ?_; (case hd => rfl); (case hg => rfl); (case hr => first | (go_simp; done) | (go_simp; rfl)); (case hp => exact (Reps.one (show Kd.M (Kd.int .i64) _ _ _ (wrap64 ((rd x0_3 0) / 16)) [.int .i64 (wrap64 ((rd x0_3 0) / 16))] from rfl) (Reps.none _ _))); intro v209 w60 ho61 hb hg_ hnew_; clear hg_ hnew_; (first | rw [← Ny208.out] at ho61 | (simp only [Int.reduceToNat] at ho61; rw [← Ny208.out] at ho61)); have n0_ := Aside0.mk (Kd.V_elder' (by (with_reducible repeat (first | apply Kd.V_alloc | apply Kd.V_drewN | apply Kd.V_drew)); exact HO_0.out) (Kd.R_base ho61) hb); have n1_ := Aside0.mk (Kd.R_elder' (by (with_reducible repeat (first | apply Kd.R_alloc | apply Kd.R_drewN | apply Kd.R_drew)); exact HO_8.out) (Kd.R_base ho61) hb); have n2_ := Aside0.mk (Kd.V_elder' (by (with_reducible repeat (first | apply Kd.V_alloc | apply Kd.V_drewN | apply Kd.V_drew)); exact HO183.out) (Kd.R_base ho61) hb); have n3_ := Aside0.mk (Kd.R_lower (Kd.R_new' (Kd.R_newM (M := fun k_ => (w.heap.size ≤ k_)) ho61 (below_size (by repeat (first | (with_reducible first | exact HB.out | apply below_alloc | apply pw_below_drewN | apply below_drew1) | exact HB.out))) (fun k_ h_ => h_)) (Kd.R_lt (by (with_reducible repeat (first | apply Kd.R_alloc | apply Kd.R_drewN | apply Kd.R_drew)); exact HO_8.out))) (below_size (by repeat (first | (with_reducible first | exact HB.out | apply below_alloc | apply pw_below_drewN | apply below_drew1) | exact HB.out)))); have n4_ := Aside0.mk (below_step (by repeat (first | (with_reducible first | exact HB.out | apply below_alloc | apply pw_below_drewN | apply below_drew1) | exact HB.out)) hb); clear HO_0; clear HO_8; clear HO183; clear HB; have HO_0 := n0_; have HO_8 := n1_; have HO183 := n2_; have HO210 := n3_; have HB := n4_; clear n0_ n1_ n2_ n3_ n4_; clear hb ho61; obtain ⟨Ao62, co62, eo62⟩ := Kd.R_slice HO210.out; subst eo62) | (go_at_call 53; (with_reducible refine (slices_Repeat_int_int.calls _ _ y208 (wrap64 (Go.bits .and .u8 (rd x0_3 0) 15)) t211 _ ?side1 ?side2 A56.out).mono ?_); (case side1 => repeat (first | exact (Kd.R_reads' HO210.out).2.2 | (with_reducible refine Kd.C_alloc ?_ _) | (with_reducible refine Kd.C_drewN ?_ _) | (with_reducible refine Kd.C_drew ?_))); (case side2 => exact (Kd.R_reads' HO210.out).2.1); rintro e w63 ⟨v212, rfl, ho0, hb⟩; have n0_ := Aside0.mk (Kd.V_elder' (by (with_reducible repeat (first | apply Kd.V_alloc | apply Kd.V_drewN | apply Kd.V_drew)); exact HO_0.out) (Kd.R_base ho0) hb); have n1_ := Aside0.mk (Kd.R_elder' (by (with_reducible repeat (first | apply Kd.R_alloc | apply Kd.R_drewN | apply Kd.R_drew)); exact HO_8.out) (Kd.R_base ho0) hb); have n2_ := Aside0.mk (Kd.V_elder' (by (with_reducible repeat (first | apply Kd.V_alloc | apply Kd.V_drewN | apply Kd.V_drew)); exact HO183.out) (Kd.R_base ho0) hb); have n3_ := Aside0.mk (Kd.R_elder' (by (with_reducible repeat (first | apply Kd.R_alloc | apply Kd.R_drewN | apply Kd.R_drew)); exact HO210.out) (Kd.R_base ho0) hb); have n4_ := Aside0.mk (Kd.R_lower (Kd.R_new' (Kd.R_new' (Kd.R_newM (M := fun k_ => (w.heap.size ≤ k_)) ho0 (below_size (by repeat (first | (with_reducible first | exact HB.out | apply below_alloc | apply pw_below_drewN | apply below_drew1) | exact HB.out))) (fun k_ h_ => h_)) (Kd.R_lt (by (with_reducible repeat (first | apply Kd.R_alloc | apply Kd.R_drewN | apply Kd.R_drew)); exact HO_8.out))) (Kd.R_lt (by (with_reducible repeat (first | apply Kd.R_alloc | apply Kd.R_drewN | apply Kd.R_drew)); exact HO210.out))) (below_size (by repeat (first | (with_reducible first | exact HB.out | apply below_alloc | apply pw_below_drewN | apply below_drew1) | exact HB.out)))); have n5_ := Aside0.mk (below_step (by repeat (first | (with_reducible first | exact HB.out | apply below_alloc | apply pw_below_drewN | apply below_drew1) | exact HB.out)) hb); clear HO_0; clear HO_8; clear HO183; clear HO210; clear HB; have HO_0 := n0_; have HO_8 := n1_; have HO183 := n2_; have HO210 := n3_; have HO213 := n4_; have HB := n5_; clear n0_ n1_ n2_ n3_ n4_ n5_; (try clear hb); (try clear hb2); (try clear hk); (try clear hi); (try clear ho0); obtain ⟨Ao65, co65, eo65⟩ := Kd.R_slice HO213.out; subst eo65) | ((with_reducible refine gate_builtin (b := .append) (xs := #[.tmp 74, .tmp 78]) rfl ?_); at_builtin; refine Kd.R_append_rows (Kd.int .i64) (w0 := w) w.heap.size rfl (.tmp 74) (.tmp 78) 22 3 (.int .i64 0) 8 rfl Try.underlying22 info3 rfl (by decide) (by omega) u8 x8_3 t211 _ _ _ (fun k_ => (w.heap.size ≤ k_) ∧ some k_ ≠ (.slice Ao62 y208.length co62 : Value).ownBlock) (fun _ => False) rfl rfl ?aO ?aR (fun _ _ h => h) (fun _ h => h.elim) ?aF ?aB ?aS ?aL ?_; (case aR => repeat (first | exact (Kd.R_reads' HO213.out).2.2 | (with_reducible refine Kd.C_alloc ?_ _) | (with_reducible refine Kd.C_drewN ?_ _) | (with_reducible refine Kd.C_drew ?_))); (case aB => exact (by repeat (first | (with_reducible first | exact HB.out | apply below_alloc | apply pw_below_drewN | apply below_drew1) | exact HB.out))); (case aF => exact (fun k_ hk => ⟨(Nat.le_trans (below_size (by repeat (first | (with_reducible first | exact HB.out | apply below_alloc | apply pw_below_drewN | apply below_drew1) | exact HB.out))) hk), Kd.fresh' (Kd.R_lt (by (with_reducible repeat (first | apply Kd.R_alloc | apply Kd.R_drewN | apply Kd.R_drew)); exact HO210.out)) k_ hk⟩)); (case aO => exact (by (with_reducible repeat (first | apply Kd.R_alloc | apply Kd.R_drewN | apply Kd.R_drew)); exact Kd.R_mono HO_8.out (fun _ hk => ⟨hk.1.1, hk.1.2⟩))); (case aS => exact (below_size (by repeat (first | (with_reducible first | exact HB.out | apply below_alloc | apply pw_below_drewN | apply below_drew1) | exact HB.out)))); (case aL => have := LMc57.out; omega); intro v215 w64 ho hb hg hat; rw [← Ny214.out] at ho; have n0_ := Aside0.mk (Kd.V_afterv (ok := (fun k_ => (P0_ k_ ∨ w.heap.size ≤ k_) ∧ some k_ ≠ (.slice Ao62 y208.length co62 : Value).ownBlock ∧ some k_ ≠ (.slice Ao65 t211.length co65 : Value).ownBlock)) (by (with_reducible repeat (first | apply Kd.V_alloc | apply Kd.V_drewN | apply Kd.V_drew)); exact Kd.V_mono HO_0.out (fun _ hk => ⟨⟨hk.1.1.1, ⟨hk.1.2, hk.2⟩⟩, hk.1.1.2⟩)) hg hat); have n1_ := Aside0.mk (Kd.V_afterv (ok := (fun k_ => (P0_ k_ ∨ w.heap.size ≤ k_) ∧ some k_ ≠ (.slice Ao62 y208.length co62 : Value).ownBlock ∧ some k_ ≠ (.slice Ao65 t211.length co65 : Value).ownBlock)) (by (with_reducible repeat (first | apply Kd.V_alloc | apply Kd.V_drewN | apply Kd.V_drew)); exact Kd.V_mono HO183.out (fun _ hk => ⟨⟨hk.1.1.1, ⟨hk.1.2, hk.2⟩⟩, hk.1.1.2⟩)) hg hat); have n2_ := Aside0.mk (Kd.R_after (ok := (fun k_ => (w.heap.size ≤ k_) ∧ some k_ ≠ (.slice Ao65 t211.length co65 : Value).ownBlock)) (by (with_reducible repeat (first | apply Kd.R_alloc | apply Kd.R_drewN | apply Kd.R_drew)); exact Kd.R_mono HO210.out (fun _ hk => ⟨⟨hk.1.1.1, hk.2⟩, hk.1.2⟩)) hg hat); have n3_ := Aside0.mk (hb); have n4_ := Aside0.mk (ho); clear HO_0; clear HO183; clear HO210; clear HB; clear HO_8; clear HO213; have HO_0 := n0_; have HO183 := n1_; have HO210 := n2_; have HB := n3_; have HO216 := n4_; clear n0_ n1_ n2_ n3_ n4_; clear ho hb hg hat)); try go_wp2_with (first | ((with_reducible refine gate_dst (N := 76) rfl ?_); refine Kd.R_lit (Kd.int .i64) _ 3 ?hg (N := 76) ?hd (xs := ([wrap64 ((rd x0_3 0) / 16)] : List Int)) (inner := [.int .i64 (wrap64 ((rd x0_3 0) / 16))]) (ok := fun _ => True) (okp := fun _ => True) ?hr ?hp (fun _ hk => hk) trivial (Below.refl _ _) (Nat.le_refl _) (by simp) ?_; (case hd => rfl); (case hg => rfl); (case hr => first | (go_simp; done) | (go_simp; rfl)); (case hp => exact (Reps.one (show Kd.M (Kd.int .i64) _ _ _ (wrap64 ((rd x0_3 0) / 16)) [.int .i64 (wrap64 ((rd x0_3 0) / 16))] from rfl) (Reps.none _ _))); intro v209 w60 ho61 hb hg_ hnew_; clear hg_ hnew_; (first | rw [← Ny208.out] at ho61 | (simp only [Int.reduceToNat] at ho61; rw [← Ny208.out] at ho61)); have n0_ := Aside0.mk (Kd.V_elder' (by (with_reducible repeat (first | apply Kd.V_alloc | apply Kd.V_drewN | apply Kd.V_drew)); exact HO_0.out) (Kd.R_base ho61) hb); have n1_ := Aside0.mk (Kd.R_elder' (by (with_reducible repeat (first | apply Kd.R_alloc | apply Kd.R_drewN | apply Kd.R_drew)); exact HO_8.out) (Kd.R_base ho61) hb); have n2_ := Aside0.mk (Kd.V_elder' (by (with_reducible repeat (first | apply Kd.V_alloc | apply Kd.V_drewN | apply Kd.V_drew)); exact HO183.out) (Kd.R_base ho61) hb); have n3_ := Aside0.mk (Kd.R_lower (Kd.R_new' (Kd.R_newM (M := fun k_ => (w.heap.size ≤ k_)) ho61 (below_size (by repeat (first | (with_reducible first | exact HB.out | apply below_alloc | apply pw_below_drewN | apply below_drew1) | exact HB.out))) (fun k_ h_ => h_)) (Kd.R_lt (by (with_reducible repeat (first | apply Kd.R_alloc | apply Kd.R_drewN | apply Kd.R_drew)); exact HO_8.out))) (below_size (by repeat (first | (with_reducible first | exact HB.out | apply below_alloc | apply pw_below_drewN | apply below_drew1) | exact HB.out)))); have n4_ := Aside0.mk (below_step (by repeat (first | (with_reducible first | exact HB.out | apply below_alloc | apply pw_below_drewN | apply below_drew1) | exact HB.out)) hb); clear HO_0; clear HO_8; clear HO183; clear HB; have HO_0 := n0_; have HO_8 := n1_; have HO183 := n2_; have HO210 := n3_; have HB := n4_; clear n0_ n1_ n2_ n3_ n4_; clear hb ho61; obtain ⟨Ao62, co62, eo62⟩ := Kd.R_slice HO210.out; subst eo62) | (go_at_call 53; (with_reducible refine (slices_Repeat_int_int.calls _ _ y208 (wrap64 (Go.bits .and .u8 (rd x0_3 0) 15)) t211 _ ?side1 ?side2 A56.out).mono ?_); (case side1 => repeat (first | exact (Kd.R_reads' HO210.out).2.2 | (with_reducible refine Kd.C_alloc ?_ _) | (with_reducible refine Kd.C_drewN ?_ _) | (with_reducible refine Kd.C_drew ?_))); (case side2 => exact (Kd.R_reads' HO210.out).2.1); rintro e w63 ⟨v212, rfl, ho0, hb⟩; have n0_ := Aside0.mk (Kd.V_elder' (by (with_reducible repeat (first | apply Kd.V_alloc | apply Kd.V_drewN | apply Kd.V_drew)); exact HO_0.out) (Kd.R_base ho0) hb); have n1_ := Aside0.mk (Kd.R_elder' (by (with_reducible repeat (first | apply Kd.R_alloc | apply Kd.R_drewN | apply Kd.R_drew)); exact HO_8.out) (Kd.R_base ho0) hb); have n2_ := Aside0.mk (Kd.V_elder' (by (with_reducible repeat (first | apply Kd.V_alloc | apply Kd.V_drewN | apply Kd.V_drew)); exact HO183.out) (Kd.R_base ho0) hb); have n3_ := Aside0.mk (Kd.R_elder' (by (with_reducible repeat (first | apply Kd.R_alloc | apply Kd.R_drewN | apply Kd.R_drew)); exact HO210.out) (Kd.R_base ho0) hb); have n4_ := Aside0.mk (Kd.R_lower (Kd.R_new' (Kd.R_new' (Kd.R_newM (M := fun k_ => (w.heap.size ≤ k_)) ho0 (below_size (by repeat (first | (with_reducible first | exact HB.out | apply below_alloc | apply pw_below_drewN | apply below_drew1) | exact HB.out))) (fun k_ h_ => h_)) (Kd.R_lt (by (with_reducible repeat (first | apply Kd.R_alloc | apply Kd.R_drewN | apply Kd.R_drew)); exact HO_8.out))) (Kd.R_lt (by (with_reducible repeat (first | apply Kd.R_alloc | apply Kd.R_drewN | apply Kd.R_drew)); exact HO210.out))) (below_size (by repeat (first | (with_reducible first | exact HB.out | apply below_alloc | apply pw_below_drewN | apply below_drew1) | exact HB.out)))); have n5_ := Aside0.mk (below_step (by repeat (first | (with_reducible first | exact HB.out | apply below_alloc | apply pw_below_drewN | apply below_drew1) | exact HB.out)) hb); clear HO_0; clear HO_8; clear HO183; clear HO210; clear HB; have HO_0 := n0_; have HO_8 := n1_; have HO183 := n2_; have HO210 := n3_; have HO213 := n4_; have HB := n5_; clear n0_ n1_ n2_ n3_ n4_ n5_; (try clear hb); (try clear hb2); (try clear hk); (try clear hi); (try clear ho0); obtain ⟨Ao65, co65, eo65⟩ := Kd.R_slice HO213.out; subst eo65) | ((with_reducible refine gate_builtin (b := .append) (xs := #[.tmp 74, .tmp 78]) rfl ?_); at_builtin; refine Kd.R_append_rows (Kd.int .i64) (w0 := w) w.heap.size rfl (.tmp 74) (.tmp 78) 22 3 (.int .i64 0) 8 rfl Try.underlying22 info3 rfl (by decide) (by omega) u8 x8_3 t211 _ _ _ (fun k_ => (w.heap.size ≤ k_) ∧ some k_ ≠ (.slice Ao62 y208.length co62 : Value).ownBlock) (fun _ => False) rfl rfl ?aO ?aR (fun _ _ h => h) (fun _ h => h.elim) ?aF ?aB ?aS ?aL ?_; (case aR => repeat (first | exact (Kd.R_reads' HO213.out).2.2 | (with_reducible refine Kd.C_alloc ?_ _) | (with_reducible refine Kd.C_drewN ?_ _) | (with_reducible refine Kd.C_drew ?_))); (case aB => exact (by repeat (first | (with_reducible first | exact HB.out | apply below_alloc | apply pw_below_drewN | apply below_drew1) | exact HB.out))); (case aF => exact (fun k_ hk => ⟨(Nat.le_trans (below_size (by repeat (first | (with_reducible first | exact HB.out | apply below_alloc | apply pw_below_drewN | apply below_drew1) | exact HB.out))) hk), Kd.fresh' (Kd.R_lt (by (with_reducible repeat (first | apply Kd.R_alloc | apply Kd.R_drewN | apply Kd.R_drew)); exact HO210.out)) k_ hk⟩)); (case aO => exact (by (with_reducible repeat (first | apply Kd.R_alloc | apply Kd.R_drewN | apply Kd.R_drew)); exact Kd.R_mono HO_8.out (fun _ hk => ⟨hk.1.1, hk.1.2⟩))); (case aS => exact (below_size (by repeat (first | (with_reducible first | exact HB.out | apply below_alloc | apply pw_below_drewN | apply below_drew1) | exact HB.out)))); (case aL => have := LMc57.out; omega); intro v215 w64 ho hb hg hat; rw [← Ny214.out] at ho; have n0_ := Aside0.mk (Kd.V_afterv (ok := (fun k_ => (P0_ k_ ∨ w.heap.size ≤ k_) ∧ some k_ ≠ (.slice Ao62 y208.length co62 : Value).ownBlock ∧ some k_ ≠ (.slice Ao65 t211.length co65 : Value).ownBlock)) (by (with_reducible repeat (first | apply Kd.V_alloc | apply Kd.V_drewN | apply Kd.V_drew)); exact Kd.V_mono HO_0.out (fun _ hk => ⟨⟨hk.1.1.1, ⟨hk.1.2, hk.2⟩⟩, hk.1.1.2⟩)) hg hat); have n1_ := Aside0.mk (Kd.V_afterv (ok := (fun k_ => (P0_ k_ ∨ w.heap.size ≤ k_) ∧ some k_ ≠ (.slice Ao62 y208.length co62 : Value).ownBlock ∧ some k_ ≠ (.slice Ao65 t211.length co65 : Value).ownBlock)) (by (with_reducible repeat (first | apply Kd.V_alloc | apply Kd.V_drewN | apply Kd.V_drew)); exact Kd.V_mono HO183.out (fun _ hk => ⟨⟨hk.1.1.1, ⟨hk.1.2, hk.2⟩⟩, hk.1.1.2⟩)) hg hat); have n2_ := Aside0.mk (Kd.R_after (ok := (fun k_ => (w.heap.size ≤ k_) ∧ some k_ ≠ (.slice Ao65 t211.length co65 : Value).ownBlock)) (by (with_reducible repeat (first | apply Kd.R_alloc | apply Kd.R_drewN | apply Kd.R_drew)); exact Kd.R_mono HO210.out (fun _ hk => ⟨⟨hk.1.1.1, hk.2⟩, hk.1.2⟩)) hg hat); have n3_ := Aside0.mk (hb); have n4_ := Aside0.mk (ho); clear HO_0; clear HO183; clear HO210; clear HB; clear HO_8; clear HO213; have HO_0 := n0_; have HO183 := n1_; have HO210 := n2_; have HB := n3_; have HO216 := n4_; clear n0_ n1_ n2_ n3_ n4_; clear ho hb hg hat)))
                                    go_roundg k3
                                    case measure => have := HJ3.out; have := HK2.out; have := HK3.out; omega
                                    case rel => exact ⟨(y179), (y214), (wrap64 ((rd x0_3 0) / 16)), (wrap64 (x10_3 - (wrap64 (Go.bits .and .u8 (rd x0_3 0) 15)))), (by first | rfl | (simp; done) | (simp [*]; done) | (simp; kernel_rfl)), (by first | rfl | (simp; done) | (simp [*]; done) | (simp; kernel_rfl)), H', ⟨by have := HJ3.out; have := HK2.out; have := HK3.out; omega⟩, ⟨by (with_reducible repeat (first | apply Kd.V_alloc | apply Kd.V_drewN | apply Kd.V_drew)); exact Kd.V_mono HO183.out (fun _ hk => ⟨hk.1.1, hk.2⟩)⟩, ⟨by (with_reducible repeat (first | apply Kd.R_alloc | apply Kd.R_drewN | apply Kd.R_drew)); exact Kd.R_mono HO216.out (fun _ hk => hk.1)⟩, ⟨by repeat (first | (with_reducible first | exact HB.out | apply below_alloc | apply pw_below_drewN | apply below_drew1) | exact HB.out)⟩⟩
                                  · rw [if_neg c57] at H
                                    exact absurd H (by simp)
                        · rw [if_neg c14] at H
                          exact absurd H (by simp)
                      · rw [if_neg c13] at H
                        exact absurd H (by simp)
                  · rw [if_neg c10] at H
                    have c10b0 : decide (0 < x10_3) = false := decide_eq_false c10
                    clear c10
                    have H' := Aside0.mk H
                    clear H
                    go_wp2
                    repeat (go_quiet (fail); try go_wp2)
                    go_roundg k3
                    case measure => have := HJ3.out; have := HK2.out; have := HK3.out; omega
                    case rel => exact ⟨(x0_3), (x8_3), (wrap64 (x22_2 + 1)), (by first | rfl | (simp; done) | (simp [*]; done) | (simp; kernel_rfl)), H', ⟨by have := HJ3.out; have := HK2.out; have := HK3.out; omega⟩, ⟨by (with_reducible repeat (first | apply Kd.V_alloc | apply Kd.V_drewN | apply Kd.V_drew)); exact HO_0.out⟩, ⟨by (with_reducible repeat (first | apply Kd.R_alloc | apply Kd.R_drewN | apply Kd.R_drew)); exact HO_8.out⟩, ⟨by repeat (first | (with_reducible first | exact HB.out | apply below_alloc | apply pw_below_drewN | apply below_drew1) | exact HB.out)⟩⟩
            · rw [if_neg c9] at H
              have c9b0 : decide (x22_2 < a2) = false := decide_eq_false c9
              clear c9
              by_cases c66 : (x0_2.length : Int) > 0
              · rw [if_pos c66] at H
                have c66b0 : decide (0 < (x0_2.length : Int)) = true := decide_eq_true c66
                have c66b1 : decide (0 < x0_2.length) = true := decide_eq_true (by omega)
                clear c66
                simp only [Option.some.injEq, Prod.mk.injEq] at H
                obtain ⟨rfl, rfl⟩ := H
                obtain ⟨Ao67, co67, eo67⟩ := Kd.V_slice HO_0.out
                subst eo67
                go_wp2
                repeat (go_quiet (fail); try go_wp2)
                go_ret2
                exact ⟨_, by first | rfl | (simp [errW_none, errW_some] <;> rfl) | (simp [*, errW_none, errW_some] <;> rfl), by first | exact Kd.R_nil _ _ _ _ _ | exact Kd.N_nil _ _ _ _ _ | exact Kd.V_nil _ _ _ _ _ | exact Kd.Q_nil _ _ _ _ _ | exact Kd.S_nil _ _ _ _ _, by repeat (first | (with_reducible first | exact HB.out | apply below_alloc | apply pw_below_drewN | apply below_drew1) | exact HB.out)⟩
              · rw [if_neg c66] at H
                have c66b0 : decide (0 < (x0_2.length : Int)) = false := decide_eq_false c66
                have c66b1 : decide (0 < x0_2.length) = false := decide_eq_false (by omega)
                clear c66
                simp only [Option.some.injEq, Prod.mk.injEq] at H
                obtain ⟨rfl, rfl⟩ := H
                obtain ⟨Ao68, co68, eo68⟩ := Kd.V_slice HO_0.out
                subst eo68
                go_wp2
                repeat (go_quiet (fail); try go_wp2)
                go_ret2
                exact ⟨_, by first | rfl | (simp [errW_none, errW_some] <;> rfl) | (simp [*, errW_none, errW_some] <;> rfl), by (with_reducible repeat (first | apply Kd.R_alloc | apply Kd.R_drewN | apply Kd.R_drew)); exact HO_8.out, by repeat (first | (with_reducible first | exact HB.out | apply below_alloc | apply pw_below_drewN | apply below_drew1) | exact HB.out)⟩

end Go.Proofs.Ytaebgjdaoloceaa.QBitmap
