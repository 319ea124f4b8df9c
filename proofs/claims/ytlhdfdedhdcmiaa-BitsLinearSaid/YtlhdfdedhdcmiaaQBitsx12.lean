/- Part of a proof: functions of the program as Lean functions, and that the machine's calls come to them. Made by a program of this session (wip/mp). -/
import Derived.Test.YtlhdfdedhdcmiaaQBitsx0
import Derived.Test.YtlhdfdedhdcmiaaQBitsx1
import Derived.Test.YtlhdfdedhdcmiaaQBitsx10
namespace Go.Proofs.Ytlhdfdedhdcmiaa.QBits
open Go.RowKit Go.Proofs.YtlhdfdedhdcmiaaW.PrintWords Go.Proofs.YtlhdfdedhdcmiaaW.PrintLast Go.Proofs.YtlhdfdedhdcmiaaW.PrintMore
attribute [local go_sem] max2_int min2_int max_two min_two max_three min_three max_four min_four   -- for this text's walks alone
set_option linter.unusedVariables false
set_option linter.unusedSimpArgs false

/-! ### dioramalaw01_BitsLinear: function 4 -/
theorem bits_Sum.callsB (k : Nat) (A0 : Option Addr) (c0 : Nat) (l0 : List Int) (r : Int) (w : World) (hr0 : Kd.C (Kd.int .u8) w A0 l0.length l0) (hc0 : l0.length ≤ c0) (h : bits_Sum.f k l0 = some r) :
    Calls Try.prog 13 #[.slice A0 l0.length c0] w fun e w' => e = .returned (.int .u32 r) ∧ Below w.heap.size w w' :=
  (bits_Sum.calls k A0 c0 l0 r w hr0 hc0 h).mono fun e w' ⟨he, hd⟩ => ⟨he, by obtain ⟨nd, rfl⟩ := hd; exact pw_below_drewN (Below.refl _ _) _⟩
mutual
def dioramalaw01_BitsLinear.j0 : Nat → List Int → List Int → Int → Option (Bool)
  | 0, _, _, _ => none
  | k + 1, x0, x1, x5 => if x5 > 4000 then (some true) else (if 0 ≤ x5 then (if (x5 : Int).toNat ≤ 281474976710656 then (dioramalaw01_BitsLinear.l0 k x0 x1 x5 (List.replicate (x5 : Int).toNat 0) 0) else (none)) else (none))
def dioramalaw01_BitsLinear.l0 : Nat → List Int → List Int → Int → List Int → Int → Option (Bool)
  | 0, _, _, _, _, _ => none
  | k + 1, x0, x1, x5, x6, x7 => if x7 < x5 then (if 0 ≤ x7 then (if x7 < (x0.length : Int) then (if x7 < (x1.length : Int) then (if x7 < (x6.length : Int) then (dioramalaw01_BitsLinear.l0 k x0 x1 x5 (x6.set (x7 : Int).toNat (Go.bits .xor .u8 (rd x0 x7) (rd x1 x7))) (wrap64 (x7 + 1))) else (none)) else (none)) else (none)) else (none)) else ((bits_Sum.f k x6).bind fun t140 => (if 0 ≤ x5 then (if x5 ≤ (x0.length : Int) then ((bits_Sum.f k (x0.take (x5 : Int).toNat)).bind fun t145 => (if x5 ≤ (x1.length : Int) then ((bits_Sum.f k (x1.take (x5 : Int).toNat)).bind fun t150 => (if (x5 : Int).toNat ≤ 281474976710656 then ((bits_Sum.f k (List.replicate (x5 : Int).toNat 0)).bind fun t154 => (if t140 = (Go.bits .xor .u32 (Go.bits .xor .u32 t145 t150) t154) then ((bits_Sum.f k (([1] : List Int))).bind fun t158 => ((bits_Sum.f k (([2] : List Int))).bind fun t162 => (if t158 = t162 then (some false) else ((dioramalaw01_awake.f k).bind fun t163 => (some t163))))) else (some false))) else (none))) else (none))) else (none)) else (none)))
end
def dioramalaw01_BitsLinear.f (k : Nat) (l0 : List Int) (l1 : List Int) : Option (Bool) := if (l1.length : Int) < (l0.length : Int) then (dioramalaw01_BitsLinear.j0 k l0 l1 (l1.length : Int)) else (dioramalaw01_BitsLinear.j0 k l0 l1 (l0.length : Int))
theorem dioramalaw01_BitsLinear.mono_l : ∀ k, (∀ y0 y1 y2, LeO (dioramalaw01_BitsLinear.j0 k y0 y1 y2) (dioramalaw01_BitsLinear.j0 (k + 1) y0 y1 y2)) ∧ (∀ y0 y1 y2 y3 y4, LeO (dioramalaw01_BitsLinear.l0 k y0 y1 y2 y3 y4) (dioramalaw01_BitsLinear.l0 (k + 1) y0 y1 y2 y3 y4))
  | 0 => ⟨fun _ _ _ r h => by simp [dioramalaw01_BitsLinear.j0] at h, fun _ _ _ _ _ r h => by simp [dioramalaw01_BitsLinear.l0] at h⟩
  | k + 1 => by
    obtain ⟨ih0, ih1⟩ := dioramalaw01_BitsLinear.mono_l k
    refine ⟨?_, ?_⟩
    · intro y0 y1 y2
      unfold dioramalaw01_BitsLinear.j0
      repeat' first
      | (with_reducible exact ih0 _ _ _)
      | (with_reducible exact ih1 _ _ _ _ _)
      | (with_reducible exact bits_Sum.mono _ _)
      | (with_reducible exact dioramalaw01_awake.mono _)
      | (with_reducible exact LeO.refl _)
      | (with_reducible exact LeO.none _)
      | (with_reducible refine LeO.ite ?_ ?_)
      | (with_reducible refine LeO.bind ?_ (fun _ => ?_))
      | exact ih0 _ _ _
      | exact ih1 _ _ _ _ _
      | exact bits_Sum.mono _ _
      | exact dioramalaw01_awake.mono _
      | exact LeO.none _
      | refine LeO.ite ?_ ?_
      | refine LeO.bind ?_ (fun _ => ?_)
    · intro y0 y1 y2 y3 y4
      unfold dioramalaw01_BitsLinear.l0
      repeat' first
      | (with_reducible exact ih0 _ _ _)
      | (with_reducible exact ih1 _ _ _ _ _)
      | (with_reducible exact bits_Sum.mono _ _)
      | (with_reducible exact dioramalaw01_awake.mono _)
      | (with_reducible exact LeO.refl _)
      | (with_reducible exact LeO.none _)
      | (with_reducible refine LeO.ite ?_ ?_)
      | (with_reducible refine LeO.bind ?_ (fun _ => ?_))
      | exact ih0 _ _ _
      | exact ih1 _ _ _ _ _
      | exact bits_Sum.mono _ _
      | exact dioramalaw01_awake.mono _
      | exact LeO.none _
      | refine LeO.ite ?_ ?_
      | refine LeO.bind ?_ (fun _ => ?_)
theorem dioramalaw01_BitsLinear.mono : ∀ a0 a1 k, LeO (dioramalaw01_BitsLinear.f k a0 a1) (dioramalaw01_BitsLinear.f (k + 1) a0 a1) := by
  intro a0 a1 k
  obtain ⟨ih0, ih1⟩ := dioramalaw01_BitsLinear.mono_l k
  unfold dioramalaw01_BitsLinear.f
  repeat' first
      | (with_reducible exact ih0 _ _ _)
      | (with_reducible exact ih1 _ _ _ _ _)
      | (with_reducible exact bits_Sum.mono _ _)
      | (with_reducible exact dioramalaw01_awake.mono _)
      | (with_reducible exact LeO.refl _)
      | (with_reducible exact LeO.none _)
      | (with_reducible refine LeO.ite ?_ ?_)
      | (with_reducible refine LeO.bind ?_ (fun _ => ?_))
      | exact ih0 _ _ _
      | exact ih1 _ _ _ _ _
      | exact bits_Sum.mono _ _
      | exact dioramalaw01_awake.mono _
      | exact LeO.none _
      | refine LeO.ite ?_ ?_
      | refine LeO.bind ?_ (fun _ => ?_)
def dioramalaw01_BitsLinear.T10 : Bool × List (List Nat × List Nat) := (true, [([], []), ([], []), ([], []), ([], []), ([2, 3], [2, 3]), ([4], [4]), ([], []), ([], []), ([6, 7], [6, 7]), ([8], [8]), ([5, 9], [5, 9]), ([0, 1, 0, 1, 2, 3, 4, 5, 6, 7, 8, 9, 10], [0, 1]), ([11, 10, 0, 1, 2, 3, 4, 5, 6, 7, 8, 9, 10], [10, 11])])
def dioramalaw01_BitsLinear.B10 : List Nat := [0, 0, 0, 0, 12, 28, 0, 0, 192, 448, 1020, 2047, 4095]
theorem dioramalaw01_BitsLinear.tab10 : rtab .any (opsOf Try.f4 10) = dioramalaw01_BitsLinear.T10 := by kernel_rfl
theorem dioramalaw01_BitsLinear.bits10 : waitsOk dioramalaw01_BitsLinear.T10.2 dioramalaw01_BitsLinear.B10 = true := by kernel_rfl
def dioramalaw01_BitsLinear.T11 : Bool × List (List Nat × List Nat) := (true, [([], []), ([0], [0]), ([], []), ([], []), ([2, 3], [2, 3]), ([4, 1], [4]), ([], []), ([], []), ([6, 7], [6, 7]), ([8, 5], [8]), ([5, 9], [5, 9]), ([], []), ([11, 11], [11]), ([12, 9], [12]), ([10, 13], [10, 13]), ([1, 14], [1, 14]), ([15, 13], [15]), ([16], [16]), ([17, 16, 16], [16, 17]), ([16], [16]), ([19, 18, 16], [16, 19]), ([18, 20, 16], [16, 18, 20]), ([16, 21], [16, 21]), ([22, 20], [22]), ([23, 23], [23]), ([23, 24], [23, 24]), ([25, 24, 0, 1, 2, 3, 4, 5, 6, 7, 8, 9, 10, 11, 12, 13, 14, 15, 16, 17, 18, 19, 20, 21, 22, 23, 24, 25], [25])])
def dioramalaw01_BitsLinear.B11 : List Nat := [0, 1, 0, 0, 12, 31, 0, 0, 192, 511, 1023, 0, 2048, 7167, 16383, 32767, 65535, 131071, 262143, 131071, 1048575, 2097151, 4194303, 8388607, 16777215, 33554431, 67108863]
theorem dioramalaw01_BitsLinear.tab11 : rtab .any (opsOf Try.f4 11) = dioramalaw01_BitsLinear.T11 := by kernel_rfl
theorem dioramalaw01_BitsLinear.bits11 : waitsOk dioramalaw01_BitsLinear.T11.2 dioramalaw01_BitsLinear.B11 = true := by kernel_rfl
set_option maxHeartbeats 8000000 in
set_option maxRecDepth 100000 in
theorem dioramalaw01_BitsLinear.calls (k : Nat) (A0 : Option Addr) (c0 : Nat) (l0 : List Int) (A1 : Option Addr) (c1 : Nat) (l1 : List Int) (r : Bool) (w : World) (hr0 : Kd.C (Kd.int .u8) w A0 l0.length l0) (hc0 : l0.length ≤ c0) (hr1 : Kd.C (Kd.int .u8) w A1 l1.length l1) (hc1 : l1.length ≤ c1) (h : dioramalaw01_BitsLinear.f k l0 l1 = some r) :
    Calls Try.prog 4 #[.slice A0 l0.length c0, .slice A1 l1.length c1] w fun e w' => e = .returned (.bool r) ∧ Below w.heap.size w w' := by
  have HR0 := Aside0.mk hr0
  have HC0 := Aside0.mk hc0
  clear hr0 hc0
  have HR1 := Aside0.mk hr1
  have HC1 := Aside0.mk hc1
  clear hr1 hc1
  have HB := Aside0.mk (Below.refl w.heap.size w)
  have H : (if (l1.length : Int) < (l0.length : Int) then (dioramalaw01_BitsLinear.j0 k l0 l1 (l1.length : Int)) else (dioramalaw01_BitsLinear.j0 k l0 l1 (l0.length : Int))) = some r := h
  clear h
  have HC3 := Aside0.mk H
  clear H
  go_enter Try.func4, Try.ntmps4
  go_upto_if 13 with (fail)
  go_cut [5] (fun v5 wc => ∃ (kq : Nat) (x5_2 : Int), v5 = .int .i64 x5_2 ∧ Aside0 (dioramalaw01_BitsLinear.j0 kq l0 l1 x5_2 = some r) ∧ Aside0 (kq ≤ k) ∧ Aside0 (Below w.heap.size w wc))
  case first =>
    have H := HC3.out
    clear HC3
    by_cases c4 : (l1.length : Int) < (l0.length : Int)
    · rw [if_pos c4] at H
      have c4b0 : decide ((l1.length : Int) < (l0.length : Int)) = true := decide_eq_true c4
      have c4b1 : decide (l1.length < l0.length) = true := decide_eq_true (Int.ofNat_lt.mp c4)
      clear c4
      (first | rw [c4b0] | (simp only [i64_w, i32_w]; rw [c4b0]) | rw [c4b1] | skip)
      have H' := Aside0.mk H
      clear H
      go_wp2
      go_meet
      case rel => exact ⟨_, ((l1.length : Int)), (by first | rfl | (simp; done) | (simp [*]; done)), H', ⟨by first | omega | exact Nat.le_refl _⟩, ⟨by repeat (first | (with_reducible first | exact HB.out | apply below_alloc | apply pw_below_drewN | apply below_drew1) | exact HB.out)⟩⟩
    · rw [if_neg c4] at H
      have c4b0 : decide ((l1.length : Int) < (l0.length : Int)) = false := decide_eq_false c4
      have c4b1 : decide (l1.length < l0.length) = false := decide_eq_false (fun h => c4 (Int.ofNat_lt.mpr h))
      clear c4
      (first | rw [c4b0] | (simp only [i64_w, i32_w]; rw [c4b0]) | rw [c4b1] | skip)
      have H' := Aside0.mk H
      clear H
      go_wp2
      go_meet
      case rel => exact ⟨_, ((l0.length : Int)), (by first | rfl | (simp; done) | (simp [*]; done)), H', ⟨by first | omega | exact Nat.le_refl _⟩, ⟨by repeat (first | (with_reducible first | exact HB.out | apply below_alloc | apply pw_below_drewN | apply below_drew1) | exact HB.out)⟩⟩
  case rest =>
    clear HC3
    try clear c1
    try clear p2
    try clear c4
    try clear c4b0
    try clear c4b1
    obtain ⟨kq, x5_2, rfl, HA, HJ2, HB⟩ := hcut
    cases kq with
    | zero => exact absurd HA.out (by simp [dioramalaw01_BitsLinear.j0])
    | succ kj2 =>
      have H := HA.out
      clear HA
      simp only [dioramalaw01_BitsLinear.j0] at H
      by_cases c5 : x5_2 > 4000
      · rw [if_pos c5] at H
        have c5b0 : decide (4000 < x5_2) = true := decide_eq_true c5
        clear c5
        obtain rfl := Option.some.inj H
        go_wp2
        go_ret
        exact ⟨by first | rfl | (simp [errW_none, errW_some] <;> rfl) | (simp [*, errW_none, errW_some] <;> rfl), by repeat (first | (with_reducible first | exact HB.out | apply below_alloc | apply pw_below_drewN | apply below_drew1) | exact HB.out)⟩
      · rw [if_neg c5] at H
        have c5b0 : decide (4000 < x5_2) = false := decide_eq_false c5
        clear c5
        by_cases c6 : 0 ≤ x5_2
        · rw [if_pos c6] at H
          have c6b0 := eq_true c6
          have c6b1 : decide (0 ≤ x5_2) = true := decide_eq_true c6
          clear c6
          by_cases c7 : (x5_2 : Int).toNat ≤ 281474976710656
          · rw [if_pos c7] at H
            have c7b0 := eq_true c7
            have c7b1 : decide ((x5_2 : Int).toNat ≤ 281474976710656) = true := decide_eq_true c7
            clear c7
            obtain ⟨y134, hy134⟩ : ∃ y_ : List Int, y_ = (List.replicate (x5_2 : Int).toNat 0) := ⟨_, rfl⟩
            replace H : (dioramalaw01_BitsLinear.l0 kj2 l0 l1 x5_2 y134 0) = some r := by first | (rw [hy134]; with_reducible exact H) | (have H2_ := (Option.bind_some _ _).symm.trans H; rw [hy134]; with_reducible exact H2_) | (have H2_ := (Option.bind_some _ _).symm.trans H; with_reducible exact H2_) | with_reducible exact H | (rw [hy134]; exact H) | exact H
            have Ny134 := Aside0.mk hy134
            clear hy134
            have H' := Aside0.mk H
            clear H
            go_wp2_with (first | ((with_reducible refine gate_dst (N := 19) rfl ?_); (try (refine gate_guard (by rfl) ?_; dsimp only)); refine Kd.R_make (Kd.int .u8) _ 5 rfl (N := 19) rfl 22 _ _ rfl x5_2 rfl rfl Try.underlying22 (.int .u8 0) 1 info5 rfl (by decide) (by omega) 0 (ok := fun _ => True) (okp := fun _ => True) rfl (fun _ hk => hk) trivial (of_decide_eq_true (by first | (with_reducible assumption) | assumption)) (Nat.le_trans (Nat.mul_le_mul_right _ (of_decide_eq_true (by first | (with_reducible assumption) | assumption) : x5_2.toNat ≤ 281474976710656)) (by omega)) (Below.refl _ _) (Nat.le_refl _) ?_; intro v135 w8 ho9 hb hg_ hnew_; clear hg_ hnew_; (first | rw [← Ny134.out] at ho9 | (simp only [Int.reduceToNat] at ho9; rw [← Ny134.out] at ho9)); have n0_ := Aside0.mk (Kd.R_lower ho9 (below_size (by repeat (first | (with_reducible first | exact HB.out | apply below_alloc | apply pw_below_drewN | apply below_drew1) | exact HB.out)))); have n1_ := Aside0.mk (below_step (by repeat (first | (with_reducible first | exact HB.out | apply below_alloc | apply pw_below_drewN | apply below_drew1) | exact HB.out)) hb); clear HB; have HO136 := n0_; have HB := n1_; clear n0_ n1_; clear hb ho9))
            go_loopg [7] kj2 (fun kq v7 w' => ∃ (x6_2 : List Int) (x7_2 : Int), v7 = .int .i64 x7_2 ∧ Aside0 (dioramalaw01_BitsLinear.l0 kq l0 l1 x5_2 x6_2 x7_2 = some r) ∧ Aside0 (kq ≤ kj2) ∧ Aside0 (Kd.R (Kd.int .u8) 5 w' w.heap.size (fun _ => True) v135 x6_2) ∧ Aside0 (Below w.heap.size w w'))
            case atStart => exact ⟨(y134), (0), (by first | rfl | (simp; done) | (simp [*]; done)), H', ⟨Nat.le_refl _⟩, ⟨by (with_reducible repeat (first | apply Kd.R_alloc | apply Kd.R_drewN | apply Kd.R_drew)); exact HO136.out⟩, ⟨by repeat (first | (with_reducible first | exact HB.out | apply below_alloc | apply pw_below_drewN | apply below_drew1) | exact HB.out)⟩⟩
            case round =>
              clear H'
              try clear c1
              try clear p2
              try clear c4
              try clear c4b0
              try clear c4b1
              try clear c5
              try clear c5b0
              try clear c6
              try clear c6b0
              try clear c6b1
              try clear c7
              try clear c7b0
              try clear c7b1
              try clear p2
              obtain ⟨x6_2, x7_2, rfl, HA, HK2, HO_6, HB⟩ := hrel
              cases gk with
              | zero => exact absurd HA.out (by simp [dioramalaw01_BitsLinear.l0])
              | succ k2 =>
                have H := HA.out
                clear HA
                simp only [dioramalaw01_BitsLinear.l0] at H
                by_cases c10 : x7_2 < x5_2
                · rw [if_pos c10] at H
                  have c10b0 : decide (x7_2 < x5_2) = true := decide_eq_true c10
                  clear c10
                  by_cases c11 : 0 ≤ x7_2
                  · rw [if_pos c11] at H
                    have c11b0 : decide (0 ≤ x7_2) = true := decide_eq_true c11
                    clear c11
                    by_cases c12 : x7_2 < (l0.length : Int)
                    · rw [if_pos c12] at H
                      have c12b0 : decide (x7_2 < (l0.length : Int)) = true := decide_eq_true c12
                      clear c12
                      by_cases c13 : x7_2 < (l1.length : Int)
                      · rw [if_pos c13] at H
                        have c13b0 : decide (x7_2 < (l1.length : Int)) = true := decide_eq_true c13
                        clear c13
                        by_cases c14 : x7_2 < (x6_2.length : Int)
                        · rw [if_pos c14] at H
                          have c14b0 : decide (x7_2 < (x6_2.length : Int)) = true := decide_eq_true c14
                          clear c14
                          obtain ⟨y139, hy139⟩ : ∃ y_ : List Int, y_ = (x6_2.set (x7_2 : Int).toNat (Go.bits .xor .u8 (rd l0 x7_2) (rd l1 x7_2))) := ⟨_, rfl⟩
                          replace H : (dioramalaw01_BitsLinear.l0 k2 l0 l1 x5_2 y139 (wrap64 (x7_2 + 1))) = some r := by first | (rw [hy139]; with_reducible exact H) | (have H2_ := (Option.bind_some _ _).symm.trans H; rw [hy139]; with_reducible exact H2_) | (have H2_ := (Option.bind_some _ _).symm.trans H; with_reducible exact H2_) | with_reducible exact H | (rw [hy139]; exact H) | exact H
                          have Ny139 := Aside0.mk hy139
                          clear hy139
                          have H' := Aside0.mk H
                          clear H
                          try go_wp2
                          have n0_ := Aside0.mk (Kd.R_drew HO_6.out)
                          have n1_ := Aside0.mk (below_drew1 HB.out)
                          clear HO_6
                          clear HB
                          have HO_6 := n0_
                          have HB := n1_
                          clear n0_ n1_
                          have p137 : 0 ≤ (x7_2 : Int) := of_decide_eq_true (by first | (with_reducible assumption) | assumption)
                          have q137 : x7_2 < (l0.length : Int) := of_decide_eq_true (by first | (with_reducible assumption) | assumption)
                          obtain ⟨ad137, e137, hx137_0⟩ := Kd.at_int HR0.out x7_2 p137 q137
                          have hw137_0 := hx137_0
                          cases e137
                          replace hx137_0 := (HB.out.cell (World.block_lt_of_cell? w _ hx137_0)).trans hx137_0
                          replace p137 := eq_true p137
                          replace q137 := eq_true q137
                          have p138 : 0 ≤ (x7_2 : Int) := of_decide_eq_true (by first | (with_reducible assumption) | assumption)
                          have q138 : x7_2 < (l1.length : Int) := of_decide_eq_true (by first | (with_reducible assumption) | assumption)
                          obtain ⟨ad138, e138, hx138_0⟩ := Kd.at_int HR1.out x7_2 p138 q138
                          have hw138_0 := hx138_0
                          cases e138
                          replace hx138_0 := (HB.out.cell (World.block_lt_of_cell? w _ hx138_0)).trans hx138_0
                          replace p138 := eq_true p138
                          replace q138 := eq_true q138
                          have p15 : 0 ≤ (x7_2 : Int) := of_decide_eq_true (by first | (with_reducible assumption) | assumption)
                          have q15 : (x7_2 : Int) < ((x6_2.length : Int) : Int) := of_decide_eq_true (by first | (with_reducible assumption) | assumption)
                          obtain ⟨go15, co15, eo15, gb15, gl15, cl15, HG15⟩ := Kd.R_form HO_6.out (by omega)
                          (first | cases eo15 | (injection eo15 with ea_ en_ ec_; (first | subst ea_ | (injection ea_ with ea_; subst ea_)); subst ec_; clear en_))
                          have GB15 := Aside0.mk gb15
                          have GG15 := Aside0.mk HG15
                          clear gb15 gl15 HG15
                          obtain ⟨hx15_0, hf15_0⟩ := Kd.R_celln 0 HO_6.out (x7_2 : Int) p15 q15
                          replace p15 := eq_true p15
                          replace q15 := eq_true q15
                          have HP17 := Kd.R_putn HO_6.out (x7_2 : Int) (Go.bits .xor .u8 (rd l0 x7_2) (rd l1 x7_2))
                          rw [← Ny139.out] at HP17
                          have HQ17 := Aside0.mk HP17
                          clear HP17
                          refine start_ (n := 13) (S := fun w' => w'.cell? (ad137.add (x7_2).toNat) = some (.int .u8 (rd l0 x7_2)) ∧ w'.cell? (ad138.add (x7_2).toNat) = some (.int .u8 (rd l1 x7_2))) (ds := [12]) #[false, false, false, false, false, false, false, false, false, false, false, false, false] (by kernel_rfl) rfl rfl ⟨((HB.out.cell (World.block_lt_of_cell? w _ hw137_0)).trans hw137_0), ((HB.out.cell (World.block_lt_of_cell? w _ hw138_0)).trans hw138_0)⟩ (fun hHeld => ?_); refine with_tabW dioramalaw01_BitsLinear.tab10 dioramalaw01_BitsLinear.bits10 (fun HT_ HW_ => ?_)
                          generalize wr.drew = w16 at HO_6 HB GG15 HQ17 hf15_0 hx137_0 hx138_0 hx15_0 hHeld ⊢
                          refine pure_ (i := 0) (N := some 25) (v := ?_) (a' := ?_) #[true, false, false, false, false, false, false, false, false, false, false, false, false] rfl rfl (any_of HT_.out (by kernel_rfl)) (fun _ _ _ h => h) (Or.inl ⟨by rfl, ?_⟩) ?_ ?_
                          rotate_left
                          · intro w'
                            go_simp
                            with_reducible rfl
                          rotate_left
                          · simp only [Act.put, List.setIfInBounds_toArray, List.set_cons_zero, List.set_cons_succ, i64_w, i32_w]
                            rfl
                          refine pure_ (i := 1) (N := some 26) (v := ?_) (a' := ?_) #[true, true, false, false, false, false, false, false, false, false, false, false, false] rfl rfl (any_of HT_.out (by kernel_rfl)) (fun _ _ _ h => h) (Or.inl ⟨by rfl, ?_⟩) ?_ ?_
                          rotate_left
                          · intro w'
                            go_simp
                            with_reducible rfl
                          rotate_left
                          · simp only [Act.put, List.setIfInBounds_toArray, List.set_cons_zero, List.set_cons_succ, i64_w, i32_w]
                            rfl
                          refine pure_ (i := 2) (N := some 27) (v := ?_) (a' := ?_) #[true, true, true, false, false, false, false, false, false, false, false, false, false] rfl rfl (any_of HT_.out (by kernel_rfl)) (fun _ _ _ h => h) (Or.inl ⟨by rfl, ?_⟩) ?_ ?_
                          rotate_left
                          · intro w'
                            go_simp
                            with_reducible rfl
                          rotate_left
                          · simp only [Act.put, List.setIfInBounds_toArray, List.set_cons_zero, List.set_cons_succ, i64_w, i32_w]
                            rfl
                          refine pure_ (i := 3) (N := some 28) (v := ?_) (a' := ?_) #[true, true, true, true, false, false, false, false, false, false, false, false, false] rfl rfl (any_of HT_.out (by kernel_rfl)) (fun _ _ _ h => h) (Or.inl ⟨by rfl, ?_⟩) ?_ ?_
                          rotate_left
                          · intro w'
                            go_simp
                            with_reducible rfl
                          rotate_left
                          · simp only [Act.put, List.setIfInBounds_toArray, List.set_cons_zero, List.set_cons_succ, i64_w, i32_w]
                            rfl
                          refine pure_ (i := 4) (N := some 29) (v := ?_) (a' := ?_) #[true, true, true, true, true, false, false, false, false, false, false, false, false] rfl rfl (any_of HT_.out (by kernel_rfl)) (fun _ _ _ h => h) (Or.inl ⟨by rfl, ?_⟩) ?_ ?_
                          rotate_left
                          · intro w'
                            go_simp
                            with_reducible rfl
                          rotate_left
                          · simp only [Act.put, List.setIfInBounds_toArray, List.set_cons_zero, List.set_cons_succ, i64_w, i32_w]
                            rfl
                          refine pure_ (i := 6) (N := some 31) (v := ?_) (a' := ?_) #[true, true, true, true, true, false, true, false, false, false, false, false, false] rfl rfl (any_of HT_.out (by kernel_rfl)) (fun _ _ _ h => h) (Or.inl ⟨by rfl, ?_⟩) ?_ ?_
                          rotate_left
                          · intro w'
                            go_simp
                            with_reducible rfl
                          rotate_left
                          · simp only [Act.put, List.setIfInBounds_toArray, List.set_cons_zero, List.set_cons_succ, i64_w, i32_w]
                            rfl
                          refine pure_ (i := 7) (N := some 32) (v := ?_) (a' := ?_) #[true, true, true, true, true, false, true, true, false, false, false, false, false] rfl rfl (any_of HT_.out (by kernel_rfl)) (fun _ _ _ h => h) (Or.inl ⟨by rfl, ?_⟩) ?_ ?_
                          rotate_left
                          · intro w'
                            go_simp
                            with_reducible rfl
                          rotate_left
                          · simp only [Act.put, List.setIfInBounds_toArray, List.set_cons_zero, List.set_cons_succ, i64_w, i32_w]
                            rfl
                          refine pure_ (i := 8) (N := some 33) (v := ?_) (a' := ?_) #[true, true, true, true, true, false, true, true, true, false, false, false, false] rfl rfl (any_of HT_.out (by kernel_rfl)) (fun _ _ _ h => h) (Or.inl ⟨by rfl, ?_⟩) ?_ ?_
                          rotate_left
                          · intro w'
                            go_simp
                            with_reducible rfl
                          rotate_left
                          · simp only [Act.put, List.setIfInBounds_toArray, List.set_cons_zero, List.set_cons_succ, i64_w, i32_w]
                            rfl
                          refine take_ (i := 5) (N := some 30) (v := ?_) (a' := ?_) #[true, true, true, true, true, true, true, true, true, false, false, false, false] rfl rfl (take_ofW HT_.out HW_.out (by kernel_rfl)) (fun _ _ _ h => h) (Or.inl ⟨by rfl, ?_⟩) hHeld ?_ ?_
                          rotate_left
                          · rintro w' ⟨s0, s1⟩
                            go_simp
                            with_reducible rfl
                          rotate_left
                          · simp only [Act.put, List.setIfInBounds_toArray, List.set_cons_zero, List.set_cons_succ, i64_w, i32_w]
                            rfl
                          refine take_ (i := 9) (N := some 34) (v := ?_) (a' := ?_) #[true, true, true, true, true, true, true, true, true, true, false, false, false] rfl rfl (take_ofW HT_.out HW_.out (by kernel_rfl)) (fun _ _ _ h => h) (Or.inl ⟨by rfl, ?_⟩) hHeld ?_ ?_
                          rotate_left
                          · rintro w' ⟨s0, s1⟩
                            go_simp
                            with_reducible rfl
                          rotate_left
                          · simp only [Act.put, List.setIfInBounds_toArray, List.set_cons_zero, List.set_cons_succ, i64_w, i32_w]
                            rfl
                          refine pure_ (i := 10) (N := some 35) (v := ?_) (a' := ?_) #[true, true, true, true, true, true, true, true, true, true, true, false, false] rfl rfl (any_of HT_.out (by kernel_rfl)) (fun _ _ _ h => h) (Or.inl ⟨by rfl, ?_⟩) ?_ ?_
                          rotate_left
                          · intro w'
                            go_simp
                            with_reducible rfl
                          rotate_left
                          · simp only [Act.put, List.setIfInBounds_toArray, List.set_cons_zero, List.set_cons_succ, i64_w, i32_w]
                            rfl
                          refine pure_ (i := 11) (N := some 36) (v := ?_) (a' := ?_) #[true, true, true, true, true, true, true, true, true, true, true, true, false] rfl rfl (any_of HT_.out (by kernel_rfl)) (fun _ _ _ h => h) (Or.inl ⟨by rfl, ?_⟩) ?_ ?_
                          rotate_left
                          · intro w'
                            go_simp
                            with_reducible rfl
                          rotate_left
                          · simp only [Act.put, List.setIfInBounds_toArray, List.set_cons_zero, List.set_cons_succ, i64_w, i32_w]
                            rfl
                          refine last_ (i := 12) (N := none) #[true, true, true, true, true, true, true, true, true, true, true, true, true] rfl rfl (one_of HT_.out (by kernel_rfl)) (by decide) (fun K hK => ?_)
                          refine skip_ (w1 := ?_) (by rfl) rfl ?_ ?_
                          rotate_left
                          · go_simp
                            rfl
                          refine hK.out _ _ ?_
                          clear hK K
                          refine done_ (done_of HT_.out (by kernel_rfl)) ?_
                          try go_wp2
                          go_roundg k2
                          case measure => have := HJ2.out; have := HK2.out; omega
                          case rel => exact ⟨(y139), (wrap64 (x7_2 + 1)), (by first | rfl | (simp; done) | (simp [*]; done)), H', ⟨by have := HJ2.out; have := HK2.out; omega⟩, ⟨by (with_reducible repeat (first | apply Kd.R_alloc | apply Kd.R_drewN | apply Kd.R_drew)); exact HQ17.out⟩, ⟨by repeat (first | (with_reducible first | exact HB.out | apply below_alloc | apply pw_below_drewN | apply below_drew1 | refine below_set ?_ GB15.out) | exact HB.out)⟩⟩
                        · rw [if_neg c14] at H
                          exact absurd H (by simp)
                      · rw [if_neg c13] at H
                        exact absurd H (by simp)
                    · rw [if_neg c12] at H
                      exact absurd H (by simp)
                  · rw [if_neg c11] at H
                    exact absurd H (by simp)
                · rw [if_neg c10] at H
                  have c10b0 : decide (x7_2 < x5_2) = false := decide_eq_false c10
                  clear c10
                  replace H := Option.bind_eq_some_iff.mp H
                  obtain ⟨t140, A180, H⟩ := H
                  replace H : (if 0 ≤ x5_2 then (if x5_2 ≤ (l0.length : Int) then ((bits_Sum.f k2 (l0.take (x5_2 : Int).toNat)).bind fun t145 => (if x5_2 ≤ (l1.length : Int) then ((bits_Sum.f k2 (l1.take (x5_2 : Int).toNat)).bind fun t150 => (if (x5_2 : Int).toNat ≤ 281474976710656 then ((bits_Sum.f k2 (List.replicate (x5_2 : Int).toNat 0)).bind fun t154 => (if t140 = (Go.bits .xor .u32 (Go.bits .xor .u32 t145 t150) t154) then ((bits_Sum.f k2 (([1] : List Int))).bind fun t158 => ((bits_Sum.f k2 (([2] : List Int))).bind fun t162 => (if t158 = t162 then (some false) else ((dioramalaw01_awake.f k2).bind fun t163 => (some t163))))) else (some false))) else (none))) else (none))) else (none)) else (none)) = some r := H
                  have A18 := Aside0.mk A180
                  clear A180
                  by_cases c19 : 0 ≤ x5_2
                  · rw [if_pos c19] at H
                    have c19b0 := eq_true c19
                    have c19b1 : decide (0 ≤ x5_2) = true := decide_eq_true c19
                    clear c19
                    by_cases c20 : x5_2 ≤ (l0.length : Int)
                    · rw [if_pos c20] at H
                      have c20b0 := eq_true c20
                      have c20b1 : decide (x5_2 ≤ (l0.length : Int)) = true := decide_eq_true c20
                      clear c20
                      obtain ⟨y141, hy141⟩ : ∃ y_ : List Int, y_ = (l0.take (x5_2 : Int).toNat) := ⟨_, rfl⟩
                      replace H : ((bits_Sum.f k2 y141).bind fun t145 => (if x5_2 ≤ (l1.length : Int) then ((bits_Sum.f k2 (l1.take (x5_2 : Int).toNat)).bind fun t150 => (if (x5_2 : Int).toNat ≤ 281474976710656 then ((bits_Sum.f k2 (List.replicate (x5_2 : Int).toNat 0)).bind fun t154 => (if t140 = (Go.bits .xor .u32 (Go.bits .xor .u32 t145 t150) t154) then ((bits_Sum.f k2 (([1] : List Int))).bind fun t158 => ((bits_Sum.f k2 (([2] : List Int))).bind fun t162 => (if t158 = t162 then (some false) else ((dioramalaw01_awake.f k2).bind fun t163 => (some t163))))) else (some false))) else (none))) else (none))) = some r := by first | (rw [hy141]; with_reducible exact H) | (have H2_ := (Option.bind_some _ _).symm.trans H; rw [hy141]; with_reducible exact H2_) | (have H2_ := (Option.bind_some _ _).symm.trans H; with_reducible exact H2_) | with_reducible exact H | (rw [hy141]; exact H) | exact H
                      have Ny141 := Aside0.mk hy141
                      clear hy141
                      replace H := Option.bind_eq_some_iff.mp H
                      obtain ⟨t145, A210, H⟩ := H
                      replace H : (if x5_2 ≤ (l1.length : Int) then ((bits_Sum.f k2 (l1.take (x5_2 : Int).toNat)).bind fun t150 => (if (x5_2 : Int).toNat ≤ 281474976710656 then ((bits_Sum.f k2 (List.replicate (x5_2 : Int).toNat 0)).bind fun t154 => (if t140 = (Go.bits .xor .u32 (Go.bits .xor .u32 t145 t150) t154) then ((bits_Sum.f k2 (([1] : List Int))).bind fun t158 => ((bits_Sum.f k2 (([2] : List Int))).bind fun t162 => (if t158 = t162 then (some false) else ((dioramalaw01_awake.f k2).bind fun t163 => (some t163))))) else (some false))) else (none))) else (none)) = some r := H
                      have A21 := Aside0.mk A210
                      clear A210
                      have c22b0 := eq_true (of_decide_eq_true (by first | (with_reducible assumption) | assumption) : 0 ≤ x5_2)
                      by_cases c23 : x5_2 ≤ (l1.length : Int)
                      · rw [if_pos c23] at H
                        have c23b0 := eq_true c23
                        have c23b1 : decide (x5_2 ≤ (l1.length : Int)) = true := decide_eq_true c23
                        clear c23
                        obtain ⟨y146, hy146⟩ : ∃ y_ : List Int, y_ = (l1.take (x5_2 : Int).toNat) := ⟨_, rfl⟩
                        replace H : ((bits_Sum.f k2 y146).bind fun t150 => (if (x5_2 : Int).toNat ≤ 281474976710656 then ((bits_Sum.f k2 (List.replicate (x5_2 : Int).toNat 0)).bind fun t154 => (if t140 = (Go.bits .xor .u32 (Go.bits .xor .u32 t145 t150) t154) then ((bits_Sum.f k2 (([1] : List Int))).bind fun t158 => ((bits_Sum.f k2 (([2] : List Int))).bind fun t162 => (if t158 = t162 then (some false) else ((dioramalaw01_awake.f k2).bind fun t163 => (some t163))))) else (some false))) else (none))) = some r := by first | (rw [hy146]; with_reducible exact H) | (have H2_ := (Option.bind_some _ _).symm.trans H; rw [hy146]; with_reducible exact H2_) | (have H2_ := (Option.bind_some _ _).symm.trans H; with_reducible exact H2_) | with_reducible exact H | (rw [hy146]; exact H) | exact H
                        have Ny146 := Aside0.mk hy146
                        clear hy146
                        replace H := Option.bind_eq_some_iff.mp H
                        obtain ⟨t150, A240, H⟩ := H
                        replace H : (if (x5_2 : Int).toNat ≤ 281474976710656 then ((bits_Sum.f k2 (List.replicate (x5_2 : Int).toNat 0)).bind fun t154 => (if t140 = (Go.bits .xor .u32 (Go.bits .xor .u32 t145 t150) t154) then ((bits_Sum.f k2 (([1] : List Int))).bind fun t158 => ((bits_Sum.f k2 (([2] : List Int))).bind fun t162 => (if t158 = t162 then (some false) else ((dioramalaw01_awake.f k2).bind fun t163 => (some t163))))) else (some false))) else (none)) = some r := H
                        have A24 := Aside0.mk A240
                        clear A240
                        by_cases c25 : (x5_2 : Int).toNat ≤ 281474976710656
                        · rw [if_pos c25] at H
                          have c25b0 := eq_true c25
                          have c25b1 : decide ((x5_2 : Int).toNat ≤ 281474976710656) = true := decide_eq_true c25
                          clear c25
                          obtain ⟨y151, hy151⟩ : ∃ y_ : List Int, y_ = (List.replicate (x5_2 : Int).toNat 0) := ⟨_, rfl⟩
                          replace H : ((bits_Sum.f k2 y151).bind fun t154 => (if t140 = (Go.bits .xor .u32 (Go.bits .xor .u32 t145 t150) t154) then ((bits_Sum.f k2 (([1] : List Int))).bind fun t158 => ((bits_Sum.f k2 (([2] : List Int))).bind fun t162 => (if t158 = t162 then (some false) else ((dioramalaw01_awake.f k2).bind fun t163 => (some t163))))) else (some false))) = some r := by first | (rw [hy151]; with_reducible exact H) | (have H2_ := (Option.bind_some _ _).symm.trans H; rw [hy151]; with_reducible exact H2_) | (have H2_ := (Option.bind_some _ _).symm.trans H; with_reducible exact H2_) | with_reducible exact H | (rw [hy151]; exact H) | exact H
                          have Ny151 := Aside0.mk hy151
                          clear hy151
                          replace H := Option.bind_eq_some_iff.mp H
                          obtain ⟨t154, A260, H⟩ := H
                          replace H : (if t140 = (Go.bits .xor .u32 (Go.bits .xor .u32 t145 t150) t154) then ((bits_Sum.f k2 (([1] : List Int))).bind fun t158 => ((bits_Sum.f k2 (([2] : List Int))).bind fun t162 => (if t158 = t162 then (some false) else ((dioramalaw01_awake.f k2).bind fun t163 => (some t163))))) else (some false)) = some r := H
                          have A26 := Aside0.mk A260
                          clear A260
                          by_cases c27 : t140 = (Go.bits .xor .u32 (Go.bits .xor .u32 t145 t150) t154)
                          · rw [if_pos c27] at H
                            have c27b0 : (t140 == (Go.bits .xor .u32 (Go.bits .xor .u32 t145 t150) t154)) = true := beq_iff_eq.mpr c27
                            have c27b1 : (t140 != (Go.bits .xor .u32 (Go.bits .xor .u32 t145 t150) t154)) = false := bne_eq_false_iff_eq.mpr c27
                            clear c27
                            obtain ⟨y155, hy155⟩ : ∃ y_ : List Int, y_ = (([1] : List Int)) := ⟨_, rfl⟩
                            replace H : ((bits_Sum.f k2 y155).bind fun t158 => ((bits_Sum.f k2 (([2] : List Int))).bind fun t162 => (if t158 = t162 then (some false) else ((dioramalaw01_awake.f k2).bind fun t163 => (some t163))))) = some r := by first | (rw [hy155]; with_reducible exact H) | (have H2_ := (Option.bind_some _ _).symm.trans H; rw [hy155]; with_reducible exact H2_) | (have H2_ := (Option.bind_some _ _).symm.trans H; with_reducible exact H2_) | with_reducible exact H | (rw [hy155]; exact H) | exact H
                            have Ny155 := Aside0.mk hy155
                            clear hy155
                            replace H := Option.bind_eq_some_iff.mp H
                            obtain ⟨t158, A280, H⟩ := H
                            replace H : ((bits_Sum.f k2 (([2] : List Int))).bind fun t162 => (if t158 = t162 then (some false) else ((dioramalaw01_awake.f k2).bind fun t163 => (some t163)))) = some r := H
                            have A28 := Aside0.mk A280
                            clear A280
                            obtain ⟨y159, hy159⟩ : ∃ y_ : List Int, y_ = (([2] : List Int)) := ⟨_, rfl⟩
                            replace H : ((bits_Sum.f k2 y159).bind fun t162 => (if t158 = t162 then (some false) else ((dioramalaw01_awake.f k2).bind fun t163 => (some t163)))) = some r := by first | (rw [hy159]; with_reducible exact H) | (have H2_ := (Option.bind_some _ _).symm.trans H; rw [hy159]; with_reducible exact H2_) | (have H2_ := (Option.bind_some _ _).symm.trans H; with_reducible exact H2_) | with_reducible exact H | (rw [hy159]; exact H) | exact H
                            have Ny159 := Aside0.mk hy159
                            clear hy159
                            replace H := Option.bind_eq_some_iff.mp H
                            obtain ⟨t162, A290, H⟩ := H
                            replace H : (if t158 = t162 then (some false) else ((dioramalaw01_awake.f k2).bind fun t163 => (some t163))) = some r := H
                            have A29 := Aside0.mk A290
                            clear A290
                            by_cases c30 : t158 = t162
                            · rw [if_pos c30] at H
                              have c30b0 : (t158 == t162) = true := beq_iff_eq.mpr c30
                              have c30b1 : (t158 != t162) = false := bne_eq_false_iff_eq.mpr c30
                              clear c30
                              obtain rfl := Option.some.inj H
                              obtain ⟨Ao31, co31, eo31⟩ := Kd.R_slice HO_6.out
                              subst eo31
                              try go_wp2
                              have n0_ := Aside0.mk (Kd.R_drew HO_6.out)
                              have n1_ := Aside0.mk (below_drew1 HB.out)
                              clear HO_6
                              clear HB
                              have HO_6 := n0_
                              have HB := n1_
                              clear n0_ n1_
                              have q33 : (x5_2 : Int) ≤ ((l0.length : Int) : Int) := of_decide_eq_true (by first | (with_reducible assumption) | assumption)
                              obtain ⟨i033, hi033, _, hsz33, _⟩ := info_parts info5
                              have hroom33 : l0.length ≤ c0 := HC0.out
                              have hC33 : Kd.C (Kd.int .u8) _ A0 l0.length l0 := HR0.out
                              have hcut33 := cut_to (P := Try.prog) 22 5 .i64 Try.underlying22 hi033 A0 l0.length c0 x5_2 (of_decide_eq_true (by first | (with_reducible assumption) | assumption)) q33 hroom33
                              have hr33 := Kd.C_take (m := (x5_2 : Int).toNat) hC33 (by omega)
                              have hy33 : y141.length = (x5_2 : Int).toNat := (by rw [Ny141.out, List.length_take]; omega)
                              rw [← Ny141.out] at hr33
                              rw [← hy33] at hcut33
                              have HR144 := Aside0.mk hr33
                              have HC144 := Aside0.mk (show y141.length ≤ c0 from by omega)
                              clear hr33 hC33 hroom33 hi033 hsz33
                              have KY33 := Aside0.mk hy33
                              clear hy33
                              replace q33 := eq_true q33
                              have q34 : (x5_2 : Int) ≤ ((l1.length : Int) : Int) := of_decide_eq_true (by first | (with_reducible assumption) | assumption)
                              obtain ⟨i034, hi034, _, hsz34, _⟩ := info_parts info5
                              have hroom34 : l1.length ≤ c1 := HC1.out
                              have hC34 : Kd.C (Kd.int .u8) _ A1 l1.length l1 := HR1.out
                              have hcut34 := cut_to (P := Try.prog) 22 5 .i64 Try.underlying22 hi034 A1 l1.length c1 x5_2 (of_decide_eq_true (by first | (with_reducible assumption) | assumption)) q34 hroom34
                              have hr34 := Kd.C_take (m := (x5_2 : Int).toNat) hC34 (by omega)
                              have hy34 : y146.length = (x5_2 : Int).toNat := (by rw [Ny146.out, List.length_take]; omega)
                              rw [← Ny146.out] at hr34
                              rw [← hy34] at hcut34
                              have HR149 := Aside0.mk hr34
                              have HC149 := Aside0.mk (show y146.length ≤ c1 from by omega)
                              clear hr34 hC34 hroom34 hi034 hsz34
                              have KY34 := Aside0.mk hy34
                              clear hy34
                              replace q34 := eq_true q34
                              refine start_ (n := 27) (S := fun w' => True) (ds := []) #[false, false, false, false, false, false, false, false, false, false, false, false, false, false, false, false, false, false, false, false, false, false, false, false, false, false, false] (by kernel_rfl) rfl rfl trivial (fun hHeld => ?_); refine with_tabW dioramalaw01_BitsLinear.tab11 dioramalaw01_BitsLinear.bits11 (fun HT_ HW_ => ?_)
                              generalize wr.drew = w32 at HO_6 HB HR144 HR149 hHeld ⊢
                              refine pure_ (i := 0) (N := some 37) (v := ?_) (a' := ?_) #[true, false, false, false, false, false, false, false, false, false, false, false, false, false, false, false, false, false, false, false, false, false, false, false, false, false, false] rfl rfl (any_of HT_.out (by kernel_rfl)) (fun _ _ _ h => h) (Or.inl ⟨by rfl, ?_⟩) ?_ ?_
                              rotate_left
                              · intro w'
                                go_simp
                                with_reducible rfl
                              rotate_left
                              · simp only [Act.put, List.setIfInBounds_toArray, List.set_cons_zero, List.set_cons_succ, i64_w, i32_w]
                                rfl
                              refine pure_ (i := 2) (N := some 39) (v := ?_) (a' := ?_) #[true, false, true, false, false, false, false, false, false, false, false, false, false, false, false, false, false, false, false, false, false, false, false, false, false, false, false] rfl rfl (any_of HT_.out (by kernel_rfl)) (fun _ _ _ h => h) (Or.inl ⟨by rfl, ?_⟩) ?_ ?_
                              rotate_left
                              · intro w'
                                go_simp
                                with_reducible rfl
                              rotate_left
                              · simp only [Act.put, List.setIfInBounds_toArray, List.set_cons_zero, List.set_cons_succ, i64_w, i32_w]
                                rfl
                              refine pure_ (i := 3) (N := some 40) (v := ?_) (a' := ?_) #[true, false, true, true, false, false, false, false, false, false, false, false, false, false, false, false, false, false, false, false, false, false, false, false, false, false, false] rfl rfl (any_of HT_.out (by kernel_rfl)) (fun _ _ _ h => h) (Or.inl ⟨by rfl, ?_⟩) ?_ ?_
                              rotate_left
                              · intro w'
                                go_simp
                                with_reducible rfl
                              rotate_left
                              · simp only [Act.put, List.setIfInBounds_toArray, List.set_cons_zero, List.set_cons_succ, i64_w, i32_w]
                                rfl
                              refine pure_ (i := 6) (N := some 43) (v := ?_) (a' := ?_) #[true, false, true, true, false, false, true, false, false, false, false, false, false, false, false, false, false, false, false, false, false, false, false, false, false, false, false] rfl rfl (any_of HT_.out (by kernel_rfl)) (fun _ _ _ h => h) (Or.inl ⟨by rfl, ?_⟩) ?_ ?_
                              rotate_left
                              · intro w'
                                go_simp
                                with_reducible rfl
                              rotate_left
                              · simp only [Act.put, List.setIfInBounds_toArray, List.set_cons_zero, List.set_cons_succ, i64_w, i32_w]
                                rfl
                              refine pure_ (i := 7) (N := some 44) (v := ?_) (a' := ?_) #[true, false, true, true, false, false, true, true, false, false, false, false, false, false, false, false, false, false, false, false, false, false, false, false, false, false, false] rfl rfl (any_of HT_.out (by kernel_rfl)) (fun _ _ _ h => h) (Or.inl ⟨by rfl, ?_⟩) ?_ ?_
                              rotate_left
                              · intro w'
                                go_simp
                                with_reducible rfl
                              rotate_left
                              · simp only [Act.put, List.setIfInBounds_toArray, List.set_cons_zero, List.set_cons_succ, i64_w, i32_w]
                                rfl
                              refine pure_ (i := 11) (N := some 48) (v := ?_) (a' := ?_) #[true, false, true, true, false, false, true, true, false, false, false, true, false, false, false, false, false, false, false, false, false, false, false, false, false, false, false] rfl rfl (any_of HT_.out (by kernel_rfl)) (fun _ _ _ h => h) (Or.inl ⟨by rfl, ?_⟩) ?_ ?_
                              rotate_left
                              · intro w'
                                go_simp
                                with_reducible rfl
                              rotate_left
                              · simp only [Act.put, List.setIfInBounds_toArray, List.set_cons_zero, List.set_cons_succ, i64_w, i32_w]
                                rfl
                              refine inv_at [1, 4, 5, 8, 9, 10, 12, 13, 14, 15, 16, 17, 18, 19, 20, 21, 22, 23, 24, 25, 26] (fun a0_ b a w' => ∃ (v152 : Value) (v156 : Value) (v160 : Value), a = putSel a0_ b [(1, 38, .int .u32 t140), (4, 41, .slice A0 y141.length c0), (5, 42, .int .u32 t145), (8, 45, .slice A1 y146.length c1), (9, 46, .int .u32 t150), (10, 47, .int .u32 (Go.bits .xor .u32 t145 t150)), (12, 49, v152), (13, 50, .int .u32 t154), (14, 51, .int .u32 (Go.bits .xor .u32 (Go.bits .xor .u32 t145 t150) t154)), (15, 52, .bool (t140 == (Go.bits .xor .u32 (Go.bits .xor .u32 t145 t150) t154))), (16, 53, .bool (t140 == (Go.bits .xor .u32 (Go.bits .xor .u32 t145 t150) t154))), (17, 54, v156), (18, 55, .int .u32 t158), (19, 56, v160), (20, 57, .int .u32 t162), (21, 58, .bool (t158 != t162)), (22, 59, .bool (t158 != t162)), (23, 60, .bool (t158 != t162)), (24, 61, undef), (25, 62, .bool false), (26, 4, .bool false)] ∧ (Kd.R (Kd.int .u8) 5 w' w.heap.size (fun _ => True) (.slice Ao31 x6_2.length co31) x6_2) ∧ (Below w.heap.size w w') ∧ (b 12 = true → Kd.R (Kd.int .u8) 5 w' w.heap.size (fun k_ => some k_ ≠ (.slice Ao31 x6_2.length co31 : Value).ownBlock) v152 y151) ∧ (b 17 = true → Kd.R (Kd.int .u8) 5 w' w.heap.size (fun k_ => some k_ ≠ (.slice Ao31 x6_2.length co31 : Value).ownBlock) v156 y155) ∧ (b 19 = true → Kd.R (Kd.int .u8) 5 w' w.heap.size (fun k_ => some k_ ≠ (.slice Ao31 x6_2.length co31 : Value).ownBlock) v160 y159)) HT_.out HW_.out (by kernel_rfl) (by kernel_rfl) ?_ ?_ ?_
                              · exact ⟨.bool false, .bool false, .bool false, by simp only [putSel, Bool.false_eq_true, if_false], HO_6.out, HB.out, fun h_ => absurd h_ (by decide), fun h_ => absurd h_ (by decide), fun h_ => absurd h_ (by decide)⟩
                              · skip
                                clear HB HO_6
                                refine steps_cons ?_ ?_
                                · rintro b a w' ⟨v152, v156, v160, ha, Q_HO_6, Q_HB, Q_HO153, Q_HO157, Q_HO161⟩ hb_ hon hoff
                                  refine ⟨_, rfl, fun K hK => ?_⟩
                                  have e37 : a.tmps[37]? = some (.slice Ao31 x6_2.length co31) := by rw [ha]; exact (putSel_off rfl).trans rfl
                                  replace ha := Aside0.mk ha
                                  have HO_6 := Aside0.mk Q_HO_6
                                  have HB := Aside0.mk Q_HB
                                  refine goes_ Try.func13 (by kernel_rfl) rfl #[.slice Ao31 x6_2.length co31] (by first | rfl | (simp [Region.wanted, yielded, e37, *]; done)) rfl rfl (by first | (simp only [List.map_toArray, List.map_cons, List.map_nil, Act.eval, Array.getD_eq_getD_getElem?, Option.getD_some, e37]; done) | (simp only [List.map_toArray, List.map_cons, List.map_nil, Act.eval, Array.getD_eq_getD_getElem?, Option.getD_some, e37]; rfl)) ?_
                                  with_reducible refine (bits_Sum.callsB k2 _ _ x6_2 t140 _ ?side1 ?side2 A18.out).mono ?_
                                  (case side1 => repeat (first | exact (Kd.R_reads' HO_6.out).2.2 | (with_reducible refine Kd.C_alloc ?_ _) | (with_reducible refine Kd.C_drewN ?_ _) | (with_reducible refine Kd.C_drew ?_)))
                                  (case side2 => exact (Kd.R_reads' HO_6.out).2.1)
                                  rintro e w35 ⟨rfl, hb⟩
                                  refine ⟨_, rfl, ?_⟩
                                  have n0_ := Aside0.mk (Kd.R_below (by (with_reducible repeat (first | apply Kd.R_alloc | apply Kd.R_drewN | apply Kd.R_drew)); exact HO_6.out) hb)
                                  have n1_ := Aside0.mk (below_step (by repeat (first | (with_reducible first | exact HB.out | apply below_alloc | apply pw_below_drewN | apply below_drew1) | exact HB.out)) hb)
                                  have z_HO153 := fun (h0_ : b 12 = true) => (show Kd.R (Kd.int .u8) 5 w35 w.heap.size (fun k_ => some k_ ≠ (.slice Ao31 x6_2.length co31 : Value).ownBlock) v152 y151 from by first | exact (Kd.R_below (by (with_reducible repeat (first | apply Kd.R_alloc | apply Kd.R_drewN | apply Kd.R_drew)); exact (Q_HO153 h0_)) hb) | exact Kd.R_mono (Kd.R_below (by (with_reducible repeat (first | apply Kd.R_alloc | apply Kd.R_drewN | apply Kd.R_drew)); exact (Q_HO153 h0_)) hb) (fun _ h_ => by first | trivial | exact h_ | exact h_.1))
                                  clear HO_6
                                  clear HB
                                  have HO_6 := n0_
                                  have HB := n1_
                                  clear n0_ n1_
                                  (try clear hb)
                                  (try clear hb2)
                                  (try clear hk)
                                  (try clear hi)
                                  refine hK.out _ _ ⟨v152, v156, v160, (by rw [ha.out]; exact putSel_upk 0 hb_ rfl rfl rfl), (by (with_reducible repeat (first | apply Kd.R_alloc | apply Kd.R_drewN | apply Kd.R_drew)); first | exact HO_6.out | exact Kd.R_mono HO_6.out (fun _ h_ => (by first | trivial | exact h_ | (repeat' (first | exact True.intro | exact h_.1 | exact h_.2 | exact h_.1.1 | exact h_.1.2 | exact h_.2.1 | exact h_.2.2 | exact h_.1.1.1 | exact h_.1.1.2 | exact h_.1.2.1 | exact h_.1.2.2 | refine ⟨?_, ?_⟩))))), (by repeat (first | (with_reducible first | exact HB.out | apply below_alloc | apply pw_below_drewN | apply below_drew1) | exact HB.out)), z_HO153, fun h0_ => absurd ((hoff 17 (by kernel_rfl)).symm.trans h0_) (by decide), fun h0_ => absurd ((hoff 19 (by kernel_rfl)).symm.trans h0_) (by decide)⟩
                                refine steps_cons ?_ ?_
                                · rintro b a w' ⟨v152, v156, v160, ha, Q_HO_6, Q_HB, Q_HO153, Q_HO157, Q_HO161⟩ hb_ hon hoff
                                  refine ⟨_, rfl, fun K hK => ?_⟩
                                  have e39 : a.tmps[39]? = some (.slice A0 l0.length c0) := by rw [ha]; exact (putSel_off rfl).trans rfl
                                  have e40 : a.tmps[40]? = some (.int .i64 x5_2) := by rw [ha]; exact (putSel_off rfl).trans rfl
                                  replace ha := Aside0.mk ha
                                  have HO_6 := Aside0.mk Q_HO_6
                                  have HB := Aside0.mk Q_HB
                                  refine value_ (w1 := w') (v := .slice A0 y141.length c0) (by first | rfl | (simp [Region.wanted, yielded, e39, e40, *]; done)) rfl ?_ ?_
                                  · go_simp
                                    (try simp only [i64_w])
                                    try rfl
                                  refine hK.out _ _ ⟨v152, v156, v160, (by rw [ha.out]; exact putSel_upk 1 hb_ rfl rfl rfl), Q_HO_6, Q_HB, Q_HO153, fun h0_ => absurd ((hoff 17 (by kernel_rfl)).symm.trans h0_) (by decide), fun h0_ => absurd ((hoff 19 (by kernel_rfl)).symm.trans h0_) (by decide)⟩
                                refine steps_cons ?_ ?_
                                · rintro b a w' ⟨v152, v156, v160, ha, Q_HO_6, Q_HB, Q_HO153, Q_HO157, Q_HO161⟩ hb_ hon hoff
                                  refine ⟨_, rfl, fun K hK => ?_⟩
                                  have e41 : a.tmps[41]? = some (.slice A0 y141.length c0) := by rw [ha]; exact putSel_on (e := (4, 41, .slice A0 y141.length c0)) 1 rfl rfl (hon 4 (by kernel_rfl)) rfl
                                  replace ha := Aside0.mk ha
                                  have HO_6 := Aside0.mk Q_HO_6
                                  have HB := Aside0.mk Q_HB
                                  refine goes_ Try.func13 (by kernel_rfl) rfl #[.slice A0 y141.length c0] (by first | rfl | (simp [Region.wanted, yielded, e41, *]; done)) rfl rfl (by first | (simp only [List.map_toArray, List.map_cons, List.map_nil, Act.eval, Array.getD_eq_getD_getElem?, Option.getD_some, e41]; done) | (simp only [List.map_toArray, List.map_cons, List.map_nil, Act.eval, Array.getD_eq_getD_getElem?, Option.getD_some, e41]; rfl)) ?_
                                  with_reducible refine (bits_Sum.callsB k2 _ _ y141 t145 _ ?side1 ?side2 A21.out).mono ?_
                                  (case side1 => repeat (first | exact (Kd.C_below HR144.out HB.out) | (with_reducible refine Kd.C_alloc ?_ _) | (with_reducible refine Kd.C_drewN ?_ _) | (with_reducible refine Kd.C_drew ?_)))
                                  (case side2 => exact HC144.out)
                                  rintro e w37 ⟨rfl, hb⟩
                                  refine ⟨_, rfl, ?_⟩
                                  have n0_ := Aside0.mk (Kd.R_below (by (with_reducible repeat (first | apply Kd.R_alloc | apply Kd.R_drewN | apply Kd.R_drew)); exact HO_6.out) hb)
                                  have n1_ := Aside0.mk (below_step (by repeat (first | (with_reducible first | exact HB.out | apply below_alloc | apply pw_below_drewN | apply below_drew1) | exact HB.out)) hb)
                                  have z_HO153 := fun (h0_ : b 12 = true) => (show Kd.R (Kd.int .u8) 5 w37 w.heap.size (fun k_ => some k_ ≠ (.slice Ao31 x6_2.length co31 : Value).ownBlock) v152 y151 from by first | exact (Kd.R_below (by (with_reducible repeat (first | apply Kd.R_alloc | apply Kd.R_drewN | apply Kd.R_drew)); exact (Q_HO153 h0_)) hb) | exact Kd.R_mono (Kd.R_below (by (with_reducible repeat (first | apply Kd.R_alloc | apply Kd.R_drewN | apply Kd.R_drew)); exact (Q_HO153 h0_)) hb) (fun _ h_ => by first | trivial | exact h_ | exact h_.1))
                                  clear HO_6
                                  clear HB
                                  have HO_6 := n0_
                                  have HB := n1_
                                  clear n0_ n1_
                                  (try clear hb)
                                  (try clear hb2)
                                  (try clear hk)
                                  (try clear hi)
                                  refine hK.out _ _ ⟨v152, v156, v160, (by rw [ha.out]; exact putSel_upk 2 hb_ rfl rfl rfl), (by (with_reducible repeat (first | apply Kd.R_alloc | apply Kd.R_drewN | apply Kd.R_drew)); first | exact HO_6.out | exact Kd.R_mono HO_6.out (fun _ h_ => (by first | trivial | exact h_ | (repeat' (first | exact True.intro | exact h_.1 | exact h_.2 | exact h_.1.1 | exact h_.1.2 | exact h_.2.1 | exact h_.2.2 | exact h_.1.1.1 | exact h_.1.1.2 | exact h_.1.2.1 | exact h_.1.2.2 | refine ⟨?_, ?_⟩))))), (by repeat (first | (with_reducible first | exact HB.out | apply below_alloc | apply pw_below_drewN | apply below_drew1) | exact HB.out)), z_HO153, fun h0_ => absurd ((hoff 17 (by kernel_rfl)).symm.trans h0_) (by decide), fun h0_ => absurd ((hoff 19 (by kernel_rfl)).symm.trans h0_) (by decide)⟩
                                refine steps_cons ?_ ?_
                                · rintro b a w' ⟨v152, v156, v160, ha, Q_HO_6, Q_HB, Q_HO153, Q_HO157, Q_HO161⟩ hb_ hon hoff
                                  refine ⟨_, rfl, fun K hK => ?_⟩
                                  have e43 : a.tmps[43]? = some (.slice A1 l1.length c1) := by rw [ha]; exact (putSel_off rfl).trans rfl
                                  have e44 : a.tmps[44]? = some (.int .i64 x5_2) := by rw [ha]; exact (putSel_off rfl).trans rfl
                                  replace ha := Aside0.mk ha
                                  have HO_6 := Aside0.mk Q_HO_6
                                  have HB := Aside0.mk Q_HB
                                  refine value_ (w1 := w') (v := .slice A1 y146.length c1) (by first | rfl | (simp [Region.wanted, yielded, e43, e44, *]; done)) rfl ?_ ?_
                                  · go_simp
                                    (try simp only [i64_w])
                                    try rfl
                                  refine hK.out _ _ ⟨v152, v156, v160, (by rw [ha.out]; exact putSel_upk 3 hb_ rfl rfl rfl), Q_HO_6, Q_HB, Q_HO153, fun h0_ => absurd ((hoff 17 (by kernel_rfl)).symm.trans h0_) (by decide), fun h0_ => absurd ((hoff 19 (by kernel_rfl)).symm.trans h0_) (by decide)⟩
                                refine steps_cons ?_ ?_
                                · rintro b a w' ⟨v152, v156, v160, ha, Q_HO_6, Q_HB, Q_HO153, Q_HO157, Q_HO161⟩ hb_ hon hoff
                                  refine ⟨_, rfl, fun K hK => ?_⟩
                                  have e45 : a.tmps[45]? = some (.slice A1 y146.length c1) := by rw [ha]; exact putSel_on (e := (8, 45, .slice A1 y146.length c1)) 3 rfl rfl (hon 8 (by kernel_rfl)) rfl
                                  replace ha := Aside0.mk ha
                                  have HO_6 := Aside0.mk Q_HO_6
                                  have HB := Aside0.mk Q_HB
                                  refine goes_ Try.func13 (by kernel_rfl) rfl #[.slice A1 y146.length c1] (by first | rfl | (simp [Region.wanted, yielded, e45, *]; done)) rfl rfl (by first | (simp only [List.map_toArray, List.map_cons, List.map_nil, Act.eval, Array.getD_eq_getD_getElem?, Option.getD_some, e45]; done) | (simp only [List.map_toArray, List.map_cons, List.map_nil, Act.eval, Array.getD_eq_getD_getElem?, Option.getD_some, e45]; rfl)) ?_
                                  with_reducible refine (bits_Sum.callsB k2 _ _ y146 t150 _ ?side1 ?side2 A24.out).mono ?_
                                  (case side1 => repeat (first | exact (Kd.C_below HR149.out HB.out) | (with_reducible refine Kd.C_alloc ?_ _) | (with_reducible refine Kd.C_drewN ?_ _) | (with_reducible refine Kd.C_drew ?_)))
                                  (case side2 => exact HC149.out)
                                  rintro e w38 ⟨rfl, hb⟩
                                  refine ⟨_, rfl, ?_⟩
                                  have n0_ := Aside0.mk (Kd.R_below (by (with_reducible repeat (first | apply Kd.R_alloc | apply Kd.R_drewN | apply Kd.R_drew)); exact HO_6.out) hb)
                                  have n1_ := Aside0.mk (below_step (by repeat (first | (with_reducible first | exact HB.out | apply below_alloc | apply pw_below_drewN | apply below_drew1) | exact HB.out)) hb)
                                  have z_HO153 := fun (h0_ : b 12 = true) => (show Kd.R (Kd.int .u8) 5 w38 w.heap.size (fun k_ => some k_ ≠ (.slice Ao31 x6_2.length co31 : Value).ownBlock) v152 y151 from by first | exact (Kd.R_below (by (with_reducible repeat (first | apply Kd.R_alloc | apply Kd.R_drewN | apply Kd.R_drew)); exact (Q_HO153 h0_)) hb) | exact Kd.R_mono (Kd.R_below (by (with_reducible repeat (first | apply Kd.R_alloc | apply Kd.R_drewN | apply Kd.R_drew)); exact (Q_HO153 h0_)) hb) (fun _ h_ => by first | trivial | exact h_ | exact h_.1))
                                  clear HO_6
                                  clear HB
                                  have HO_6 := n0_
                                  have HB := n1_
                                  clear n0_ n1_
                                  (try clear hb)
                                  (try clear hb2)
                                  (try clear hk)
                                  (try clear hi)
                                  refine hK.out _ _ ⟨v152, v156, v160, (by rw [ha.out]; exact putSel_upk 4 hb_ rfl rfl rfl), (by (with_reducible repeat (first | apply Kd.R_alloc | apply Kd.R_drewN | apply Kd.R_drew)); first | exact HO_6.out | exact Kd.R_mono HO_6.out (fun _ h_ => (by first | trivial | exact h_ | (repeat' (first | exact True.intro | exact h_.1 | exact h_.2 | exact h_.1.1 | exact h_.1.2 | exact h_.2.1 | exact h_.2.2 | exact h_.1.1.1 | exact h_.1.1.2 | exact h_.1.2.1 | exact h_.1.2.2 | refine ⟨?_, ?_⟩))))), (by repeat (first | (with_reducible first | exact HB.out | apply below_alloc | apply pw_below_drewN | apply below_drew1) | exact HB.out)), z_HO153, fun h0_ => absurd ((hoff 17 (by kernel_rfl)).symm.trans h0_) (by decide), fun h0_ => absurd ((hoff 19 (by kernel_rfl)).symm.trans h0_) (by decide)⟩
                                refine steps_cons ?_ ?_
                                · rintro b a w' ⟨v152, v156, v160, ha, Q_HO_6, Q_HB, Q_HO153, Q_HO157, Q_HO161⟩ hb_ hon hoff
                                  refine ⟨_, rfl, fun K hK => ?_⟩
                                  have e42 : a.tmps[42]? = some (.int .u32 t145) := by rw [ha]; exact putSel_on (e := (5, 42, .int .u32 t145)) 2 rfl rfl (hon 5 (by kernel_rfl)) rfl
                                  have e46 : a.tmps[46]? = some (.int .u32 t150) := by rw [ha]; exact putSel_on (e := (9, 46, .int .u32 t150)) 4 rfl rfl (hon 9 (by kernel_rfl)) rfl
                                  replace ha := Aside0.mk ha
                                  have HO_6 := Aside0.mk Q_HO_6
                                  have HB := Aside0.mk Q_HB
                                  refine value_ (w1 := w') (v := .int .u32 (Go.bits .xor .u32 t145 t150)) (by first | rfl | (simp [Region.wanted, yielded, e42, e46, *]; done)) rfl ?_ ?_
                                  · go_simp
                                    (try simp only [i64_w])
                                    try rfl
                                  refine hK.out _ _ ⟨v152, v156, v160, (by rw [ha.out]; exact putSel_upk 5 hb_ rfl rfl rfl), Q_HO_6, Q_HB, Q_HO153, fun h0_ => absurd ((hoff 17 (by kernel_rfl)).symm.trans h0_) (by decide), fun h0_ => absurd ((hoff 19 (by kernel_rfl)).symm.trans h0_) (by decide)⟩
                                refine steps_cons ?_ ?_
                                · rintro b a w' ⟨v152, v156, v160, ha, Q_HO_6, Q_HB, Q_HO153, Q_HO157, Q_HO161⟩ hb_ hon hoff
                                  refine ⟨_, rfl, fun K hK => ?_⟩
                                  have e48 : a.tmps[48]? = some (.int .i64 x5_2) := by rw [ha]; exact (putSel_off rfl).trans rfl
                                  replace ha := Aside0.mk ha
                                  have HO_6 := Aside0.mk Q_HO_6
                                  have HB := Aside0.mk Q_HB
                                  refine Kd.R_make_step (Kd.int .u8) _ 5 (by first | rfl | (simp [Region.wanted, yielded, e48, *]; done)) (N := 49) rfl 22 _ _ rfl x5_2 (by first | rfl | (simp [Act.eval, *]; done)) (by first | rfl | (simp [Act.eval, *]; done)) Try.underlying22 (.int .u8 0) 1 info5 rfl (by decide) (by omega) 0 (ok := fun _ => True) (okp := fun _ => True) rfl (fun _ hk => hk) trivial (of_decide_eq_true (by first | (with_reducible assumption) | assumption)) (Nat.le_trans (Nat.mul_le_mul_right _ (of_decide_eq_true (by first | (with_reducible assumption) | assumption) : x5_2.toNat ≤ 281474976710656)) (by omega)) (Below.refl _ _) (Nat.le_refl _) ?_
                                  intro v152 w35 ho36 hb hg_ hnew_
                                  clear hg_ hnew_
                                  (first | rw [← Ny151.out] at ho36 | (simp only [Int.reduceToNat] at ho36; rw [← Ny151.out] at ho36))
                                  have n0_ := Aside0.mk (Kd.R_elder' (by (with_reducible repeat (first | apply Kd.R_alloc | apply Kd.R_drewN | apply Kd.R_drew)); exact HO_6.out) (Kd.R_base ho36) hb)
                                  have n1_ := Aside0.mk (Kd.R_lower (Kd.R_new' ho36 (Kd.R_lt (by (with_reducible repeat (first | apply Kd.R_alloc | apply Kd.R_drewN | apply Kd.R_drew)); exact HO_6.out))) (below_size (by repeat (first | (with_reducible first | exact HB.out | apply below_alloc | apply pw_below_drewN | apply below_drew1) | exact HB.out))))
                                  have n2_ := Aside0.mk (below_step (by repeat (first | (with_reducible first | exact HB.out | apply below_alloc | apply pw_below_drewN | apply below_drew1) | exact HB.out)) hb)
                                  clear HO_6
                                  clear HB
                                  have HO_6 := n0_
                                  have HO153 := n1_
                                  have HB := n2_
                                  clear n0_ n1_ n2_
                                  clear hb ho36
                                  refine hK.out _ _ ⟨v152, v156, v160, (by rw [ha.out]; exact putSel_upk 6 hb_ rfl rfl rfl), (by (with_reducible repeat (first | apply Kd.R_alloc | apply Kd.R_drewN | apply Kd.R_drew)); first | exact Kd.R_mono HO_6.out (fun _ hk => hk.2) | exact Kd.R_mono HO_6.out (fun _ h_ => (by first | trivial | exact h_ | (repeat' (first | exact True.intro | exact h_.1 | exact h_.2 | exact h_.1.1 | exact h_.1.2 | exact h_.2.1 | exact h_.2.2 | exact h_.1.1.1 | exact h_.1.1.2 | exact h_.1.2.1 | exact h_.1.2.2 | refine ⟨?_, ?_⟩))))), (by repeat (first | (with_reducible first | exact HB.out | apply below_alloc | apply pw_below_drewN | apply below_drew1) | exact HB.out)), fun _ => (by (with_reducible repeat (first | apply Kd.R_alloc | apply Kd.R_drewN | apply Kd.R_drew)); first | exact Kd.R_mono HO153.out (fun _ hk => hk.2) | exact Kd.R_mono HO153.out (fun _ h_ => (by first | trivial | exact h_ | (repeat' (first | exact True.intro | exact h_.1 | exact h_.2 | exact h_.1.1 | exact h_.1.2 | exact h_.2.1 | exact h_.2.2 | exact h_.1.1.1 | exact h_.1.1.2 | exact h_.1.2.1 | exact h_.1.2.2 | refine ⟨?_, ?_⟩))))), fun h0_ => absurd ((hoff 17 (by kernel_rfl)).symm.trans h0_) (by decide), fun h0_ => absurd ((hoff 19 (by kernel_rfl)).symm.trans h0_) (by decide)⟩
                                refine steps_cons ?_ ?_
                                · rintro b a w' ⟨v152, v156, v160, ha, Q_HO_6, Q_HB, Q_HO153, Q_HO157, Q_HO161⟩ hb_ hon hoff
                                  refine ⟨_, rfl, fun K hK => ?_⟩
                                  have e49 : a.tmps[49]? = some (v152) := by rw [ha]; exact putSel_on (e := (12, 49, v152)) 6 rfl rfl (hon 12 (by kernel_rfl)) rfl
                                  replace ha := Aside0.mk ha
                                  have HO_6 := Aside0.mk Q_HO_6
                                  have HB := Aside0.mk Q_HB
                                  have HO153 := Aside0.mk (Q_HO153 (hon 12 (by kernel_rfl)))
                                  obtain ⟨Ao41, co41, eo41⟩ := Kd.R_slice HO153.out
                                  (first | subst eo41 | (injection eo41 with f1_ f2_ f3_; have f4_ := f1_.symm; have f5_ := f3_.symm; clear f1_ f2_ f3_; subst f4_; subst f5_))
                                  refine goes_ Try.func13 (by kernel_rfl) rfl #[.slice Ao41 y151.length co41] (by first | rfl | (simp [Region.wanted, yielded, e49, *]; done)) rfl rfl (by first | (simp only [List.map_toArray, List.map_cons, List.map_nil, Act.eval, Array.getD_eq_getD_getElem?, Option.getD_some, e49]; done) | (simp only [List.map_toArray, List.map_cons, List.map_nil, Act.eval, Array.getD_eq_getD_getElem?, Option.getD_some, e49]; rfl)) ?_
                                  with_reducible refine (bits_Sum.callsB k2 _ _ y151 t154 _ ?side1 ?side2 A26.out).mono ?_
                                  (case side1 => repeat (first | exact (Kd.R_reads' HO153.out).2.2 | (with_reducible refine Kd.C_alloc ?_ _) | (with_reducible refine Kd.C_drewN ?_ _) | (with_reducible refine Kd.C_drew ?_)))
                                  (case side2 => exact (Kd.R_reads' HO153.out).2.1)
                                  rintro e w42 ⟨rfl, hb⟩
                                  refine ⟨_, rfl, ?_⟩
                                  have n0_ := Aside0.mk (Kd.R_below (by (with_reducible repeat (first | apply Kd.R_alloc | apply Kd.R_drewN | apply Kd.R_drew)); exact HO_6.out) hb)
                                  have n1_ := Aside0.mk (Kd.R_below (by (with_reducible repeat (first | apply Kd.R_alloc | apply Kd.R_drewN | apply Kd.R_drew)); exact HO153.out) hb)
                                  have n2_ := Aside0.mk (below_step (by repeat (first | (with_reducible first | exact HB.out | apply below_alloc | apply pw_below_drewN | apply below_drew1) | exact HB.out)) hb)
                                  clear HO_6
                                  clear HO153
                                  clear HB
                                  have HO_6 := n0_
                                  have HO153 := n1_
                                  have HB := n2_
                                  clear n0_ n1_ n2_
                                  (try clear hb)
                                  (try clear hb2)
                                  (try clear hk)
                                  (try clear hi)
                                  refine hK.out _ _ ⟨.slice Ao41 y151.length co41, v156, v160, (by rw [ha.out]; exact putSel_upk 7 hb_ rfl rfl rfl), (by (with_reducible repeat (first | apply Kd.R_alloc | apply Kd.R_drewN | apply Kd.R_drew)); first | exact HO_6.out | exact Kd.R_mono HO_6.out (fun _ h_ => (by first | trivial | exact h_ | (repeat' (first | exact True.intro | exact h_.1 | exact h_.2 | exact h_.1.1 | exact h_.1.2 | exact h_.2.1 | exact h_.2.2 | exact h_.1.1.1 | exact h_.1.1.2 | exact h_.1.2.1 | exact h_.1.2.2 | refine ⟨?_, ?_⟩))))), (by repeat (first | (with_reducible first | exact HB.out | apply below_alloc | apply pw_below_drewN | apply below_drew1) | exact HB.out)), fun _ => (by (with_reducible repeat (first | apply Kd.R_alloc | apply Kd.R_drewN | apply Kd.R_drew)); first | exact HO153.out | exact Kd.R_mono HO153.out (fun _ h_ => (by first | trivial | exact h_ | (repeat' (first | exact True.intro | exact h_.1 | exact h_.2 | exact h_.1.1 | exact h_.1.2 | exact h_.2.1 | exact h_.2.2 | exact h_.1.1.1 | exact h_.1.1.2 | exact h_.1.2.1 | exact h_.1.2.2 | refine ⟨?_, ?_⟩))))), fun h0_ => absurd ((hoff 17 (by kernel_rfl)).symm.trans h0_) (by decide), fun h0_ => absurd ((hoff 19 (by kernel_rfl)).symm.trans h0_) (by decide)⟩
                                refine steps_cons ?_ ?_
                                · rintro b a w' ⟨v152, v156, v160, ha, Q_HO_6, Q_HB, Q_HO153, Q_HO157, Q_HO161⟩ hb_ hon hoff
                                  refine ⟨_, rfl, fun K hK => ?_⟩
                                  have e47 : a.tmps[47]? = some (.int .u32 (Go.bits .xor .u32 t145 t150)) := by rw [ha]; exact putSel_on (e := (10, 47, .int .u32 (Go.bits .xor .u32 t145 t150))) 5 rfl rfl (hon 10 (by kernel_rfl)) rfl
                                  have e50 : a.tmps[50]? = some (.int .u32 t154) := by rw [ha]; exact putSel_on (e := (13, 50, .int .u32 t154)) 7 rfl rfl (hon 13 (by kernel_rfl)) rfl
                                  replace ha := Aside0.mk ha
                                  have HO_6 := Aside0.mk Q_HO_6
                                  have HB := Aside0.mk Q_HB
                                  have HO153 := Aside0.mk (Q_HO153 (hon 12 (by kernel_rfl)))
                                  refine value_ (w1 := w') (v := .int .u32 (Go.bits .xor .u32 (Go.bits .xor .u32 t145 t150) t154)) (by first | rfl | (simp [Region.wanted, yielded, e47, e50, *]; done)) rfl ?_ ?_
                                  · go_simp
                                    (try simp only [i64_w])
                                    try rfl
                                  refine hK.out _ _ ⟨v152, v156, v160, (by rw [ha.out]; exact putSel_upk 8 hb_ rfl rfl rfl), Q_HO_6, Q_HB, Q_HO153, fun h0_ => absurd ((hoff 17 (by kernel_rfl)).symm.trans h0_) (by decide), fun h0_ => absurd ((hoff 19 (by kernel_rfl)).symm.trans h0_) (by decide)⟩
                                refine steps_cons ?_ ?_
                                · rintro b a w' ⟨v152, v156, v160, ha, Q_HO_6, Q_HB, Q_HO153, Q_HO157, Q_HO161⟩ hb_ hon hoff
                                  refine ⟨_, rfl, fun K hK => ?_⟩
                                  have e38 : a.tmps[38]? = some (.int .u32 t140) := by rw [ha]; exact putSel_on (e := (1, 38, .int .u32 t140)) 0 rfl rfl (hon 1 (by kernel_rfl)) rfl
                                  have e51 : a.tmps[51]? = some (.int .u32 (Go.bits .xor .u32 (Go.bits .xor .u32 t145 t150) t154)) := by rw [ha]; exact putSel_on (e := (14, 51, .int .u32 (Go.bits .xor .u32 (Go.bits .xor .u32 t145 t150) t154))) 8 rfl rfl (hon 14 (by kernel_rfl)) rfl
                                  replace ha := Aside0.mk ha
                                  have HO_6 := Aside0.mk Q_HO_6
                                  have HB := Aside0.mk Q_HB
                                  have HO153 := Aside0.mk (Q_HO153 (hon 12 (by kernel_rfl)))
                                  refine value_ (w1 := w') (v := .bool (t140 == (Go.bits .xor .u32 (Go.bits .xor .u32 t145 t150) t154))) (by first | rfl | (simp [Region.wanted, yielded, e38, e51, *]; done)) rfl ?_ ?_
                                  · go_simp
                                    (try simp only [i64_w])
                                    try rfl
                                  refine hK.out _ _ ⟨v152, v156, v160, (by rw [ha.out]; exact putSel_upk 9 hb_ rfl rfl rfl), Q_HO_6, Q_HB, Q_HO153, fun h0_ => absurd ((hoff 17 (by kernel_rfl)).symm.trans h0_) (by decide), fun h0_ => absurd ((hoff 19 (by kernel_rfl)).symm.trans h0_) (by decide)⟩
                                refine steps_cons ?_ ?_
                                · rintro b a w' ⟨v152, v156, v160, ha, Q_HO_6, Q_HB, Q_HO153, Q_HO157, Q_HO161⟩ hb_ hon hoff
                                  refine ⟨_, rfl, fun K hK => ?_⟩
                                  have e52 : a.tmps[52]? = some (.bool (t140 == (Go.bits .xor .u32 (Go.bits .xor .u32 t145 t150) t154))) := by rw [ha]; exact putSel_on (e := (15, 52, .bool (t140 == (Go.bits .xor .u32 (Go.bits .xor .u32 t145 t150) t154)))) 9 rfl rfl (hon 15 (by kernel_rfl)) rfl
                                  replace ha := Aside0.mk ha
                                  have HO_6 := Aside0.mk Q_HO_6
                                  have HB := Aside0.mk Q_HB
                                  have HO153 := Aside0.mk (Q_HO153 (hon 12 (by kernel_rfl)))
                                  refine value_ (w1 := w') (v := .bool (t140 == (Go.bits .xor .u32 (Go.bits .xor .u32 t145 t150) t154))) (by first | rfl | (simp [Region.wanted, yielded, e52, *]; done)) rfl ?_ ?_
                                  · go_simp
                                    (try simp only [i64_w])
                                    try rfl
                                  refine hK.out _ _ ⟨v152, v156, v160, (by rw [ha.out]; exact putSel_upk 10 hb_ rfl rfl rfl), Q_HO_6, Q_HB, Q_HO153, fun h0_ => absurd ((hoff 17 (by kernel_rfl)).symm.trans h0_) (by decide), fun h0_ => absurd ((hoff 19 (by kernel_rfl)).symm.trans h0_) (by decide)⟩
                                refine steps_cons ?_ ?_
                                · rintro b a w' ⟨v152, v156, v160, ha, Q_HO_6, Q_HB, Q_HO153, Q_HO157, Q_HO161⟩ hb_ hon hoff
                                  refine ⟨_, rfl, fun K hK => ?_⟩
                                  have e53 : a.tmps[53]? = some (.bool (t140 == (Go.bits .xor .u32 (Go.bits .xor .u32 t145 t150) t154))) := by rw [ha]; exact putSel_on (e := (16, 53, .bool (t140 == (Go.bits .xor .u32 (Go.bits .xor .u32 t145 t150) t154)))) 10 rfl rfl (hon 16 (by kernel_rfl)) rfl
                                  replace ha := Aside0.mk ha
                                  have HO_6 := Aside0.mk Q_HO_6
                                  have HB := Aside0.mk Q_HB
                                  have HO153 := Aside0.mk (Q_HO153 (hon 12 (by kernel_rfl)))
                                  refine Kd.R_lit_step (Kd.int .u8) _ 5 ?hg (N := 54) ?hd (xs := ([1] : List Int)) (inner := [.int .u8 1]) (ok := fun _ => True) (okp := fun _ => True) ?hr ?hp (fun _ hk => hk) trivial (Below.refl _ _) (Nat.le_refl _) (by simp) ?_; (case hd => rfl); (case hg => first | rfl | (simp [Region.wanted, yielded, e53, *]; done)); (case hr => first | (go_simp; done) | (go_simp; rfl)); (case hp => exact (Reps.one (show Kd.M (Kd.int .u8) _ _ _ 1 [.int .u8 1] from rfl) (Reps.none _ _)))
                                  intro v156 w43 ho44 hb hg_ hnew_
                                  clear hg_ hnew_
                                  (first | rw [← Ny155.out] at ho44 | (simp only [Int.reduceToNat] at ho44; rw [← Ny155.out] at ho44))
                                  have n0_ := Aside0.mk (Kd.R_elder' (by (with_reducible repeat (first | apply Kd.R_alloc | apply Kd.R_drewN | apply Kd.R_drew)); exact HO_6.out) (Kd.R_base ho44) hb)
                                  have n1_ := Aside0.mk (Kd.R_elder' (by (with_reducible repeat (first | apply Kd.R_alloc | apply Kd.R_drewN | apply Kd.R_drew)); exact HO153.out) (Kd.R_base ho44) hb)
                                  have n2_ := Aside0.mk (Kd.R_lower (Kd.R_new' (Kd.R_new' ho44 (Kd.R_lt (by (with_reducible repeat (first | apply Kd.R_alloc | apply Kd.R_drewN | apply Kd.R_drew)); exact HO_6.out))) (Kd.R_lt (by (with_reducible repeat (first | apply Kd.R_alloc | apply Kd.R_drewN | apply Kd.R_drew)); exact HO153.out))) (below_size (by repeat (first | (with_reducible first | exact HB.out | apply below_alloc | apply pw_below_drewN | apply below_drew1) | exact HB.out))))
                                  have n3_ := Aside0.mk (below_step (by repeat (first | (with_reducible first | exact HB.out | apply below_alloc | apply pw_below_drewN | apply below_drew1) | exact HB.out)) hb)
                                  have z_HO161 := fun (h0_ : b 19 = true) => (show Kd.R (Kd.int .u8) 5 w43 w.heap.size (fun k_ => some k_ ≠ (.slice Ao31 x6_2.length co31 : Value).ownBlock) v160 y159 from by first | exact (Kd.R_elder' (by (with_reducible repeat (first | apply Kd.R_alloc | apply Kd.R_drewN | apply Kd.R_drew)); exact (Q_HO161 h0_)) (Kd.R_base ho44) hb) | exact Kd.R_mono (Kd.R_elder' (by (with_reducible repeat (first | apply Kd.R_alloc | apply Kd.R_drewN | apply Kd.R_drew)); exact (Q_HO161 h0_)) (Kd.R_base ho44) hb) (fun _ h_ => by first | trivial | exact h_ | exact h_.1))
                                  clear HO_6
                                  clear HO153
                                  clear HB
                                  have HO_6 := n0_
                                  have HO153 := n1_
                                  have HO157 := n2_
                                  have HB := n3_
                                  clear n0_ n1_ n2_ n3_
                                  clear hb ho44
                                  refine hK.out _ _ ⟨v152, v156, v160, (by rw [ha.out]; exact putSel_upk 11 hb_ rfl rfl rfl), (by (with_reducible repeat (first | apply Kd.R_alloc | apply Kd.R_drewN | apply Kd.R_drew)); first | exact HO_6.out | exact Kd.R_mono HO_6.out (fun _ h_ => (by first | trivial | exact h_ | (repeat' (first | exact True.intro | exact h_.1 | exact h_.2 | exact h_.1.1 | exact h_.1.2 | exact h_.2.1 | exact h_.2.2 | exact h_.1.1.1 | exact h_.1.1.2 | exact h_.1.2.1 | exact h_.1.2.2 | refine ⟨?_, ?_⟩))))), (by repeat (first | (with_reducible first | exact HB.out | apply below_alloc | apply pw_below_drewN | apply below_drew1) | exact HB.out)), fun _ => (by (with_reducible repeat (first | apply Kd.R_alloc | apply Kd.R_drewN | apply Kd.R_drew)); first | exact Kd.R_mono HO153.out (fun _ hk => ⟨hk.2, hk.1⟩) | exact Kd.R_mono HO153.out (fun _ h_ => (by first | trivial | exact h_ | (repeat' (first | exact True.intro | exact h_.1 | exact h_.2 | exact h_.1.1 | exact h_.1.2 | exact h_.2.1 | exact h_.2.2 | exact h_.1.1.1 | exact h_.1.1.2 | exact h_.1.2.1 | exact h_.1.2.2 | refine ⟨?_, ?_⟩))))), fun _ => (by (with_reducible repeat (first | apply Kd.R_alloc | apply Kd.R_drewN | apply Kd.R_drew)); first | exact Kd.R_mono HO157.out (fun _ hk => ⟨hk.2, hk.1.2⟩) | exact Kd.R_mono HO157.out (fun _ h_ => (by first | trivial | exact h_ | (repeat' (first | exact True.intro | exact h_.1 | exact h_.2 | exact h_.1.1 | exact h_.1.2 | exact h_.2.1 | exact h_.2.2 | exact h_.1.1.1 | exact h_.1.1.2 | exact h_.1.2.1 | exact h_.1.2.2 | refine ⟨?_, ?_⟩))))), z_HO161⟩
                                refine steps_cons ?_ ?_
                                · rintro b a w' ⟨v152, v156, v160, ha, Q_HO_6, Q_HB, Q_HO153, Q_HO157, Q_HO161⟩ hb_ hon hoff
                                  refine ⟨_, rfl, fun K hK => ?_⟩
                                  have e54 : a.tmps[54]? = some (v156) := by rw [ha]; exact putSel_on (e := (17, 54, v156)) 11 rfl rfl (hon 17 (by kernel_rfl)) rfl
                                  have e53 : a.tmps[53]? = some (.bool (t140 == (Go.bits .xor .u32 (Go.bits .xor .u32 t145 t150) t154))) := by rw [ha]; exact putSel_on (e := (16, 53, .bool (t140 == (Go.bits .xor .u32 (Go.bits .xor .u32 t145 t150) t154)))) 10 rfl rfl (hon 16 (by kernel_rfl)) rfl
                                  replace ha := Aside0.mk ha
                                  have HO_6 := Aside0.mk Q_HO_6
                                  have HB := Aside0.mk Q_HB
                                  have HO153 := Aside0.mk (Q_HO153 (hon 12 (by kernel_rfl)))
                                  have HO157 := Aside0.mk (Q_HO157 (hon 17 (by kernel_rfl)))
                                  obtain ⟨Ao45, co45, eo45⟩ := Kd.R_slice HO157.out
                                  (first | subst eo45 | (injection eo45 with f1_ f2_ f3_; have f4_ := f1_.symm; have f5_ := f3_.symm; clear f1_ f2_ f3_; subst f4_; subst f5_))
                                  refine goes_ Try.func13 (by kernel_rfl) rfl #[.slice Ao45 y155.length co45] (by first | rfl | (simp [Region.wanted, yielded, e54, e53, *]; done)) rfl rfl (by first | (simp only [List.map_toArray, List.map_cons, List.map_nil, Act.eval, Array.getD_eq_getD_getElem?, Option.getD_some, e54, e53]; done) | (simp only [List.map_toArray, List.map_cons, List.map_nil, Act.eval, Array.getD_eq_getD_getElem?, Option.getD_some, e54, e53]; rfl)) ?_
                                  with_reducible refine (bits_Sum.callsB k2 _ _ y155 t158 _ ?side1 ?side2 A28.out).mono ?_
                                  (case side1 => repeat (first | exact (Kd.R_reads' HO157.out).2.2 | (with_reducible refine Kd.C_alloc ?_ _) | (with_reducible refine Kd.C_drewN ?_ _) | (with_reducible refine Kd.C_drew ?_)))
                                  (case side2 => exact (Kd.R_reads' HO157.out).2.1)
                                  rintro e w46 ⟨rfl, hb⟩
                                  refine ⟨_, rfl, ?_⟩
                                  have n0_ := Aside0.mk (Kd.R_below (by (with_reducible repeat (first | apply Kd.R_alloc | apply Kd.R_drewN | apply Kd.R_drew)); exact HO_6.out) hb)
                                  have n1_ := Aside0.mk (Kd.R_below (by (with_reducible repeat (first | apply Kd.R_alloc | apply Kd.R_drewN | apply Kd.R_drew)); exact HO153.out) hb)
                                  have n2_ := Aside0.mk (Kd.R_below (by (with_reducible repeat (first | apply Kd.R_alloc | apply Kd.R_drewN | apply Kd.R_drew)); exact HO157.out) hb)
                                  have n3_ := Aside0.mk (below_step (by repeat (first | (with_reducible first | exact HB.out | apply below_alloc | apply pw_below_drewN | apply below_drew1) | exact HB.out)) hb)
                                  have z_HO161 := fun (h0_ : b 19 = true) => (show Kd.R (Kd.int .u8) 5 w46 w.heap.size (fun k_ => some k_ ≠ (.slice Ao31 x6_2.length co31 : Value).ownBlock) v160 y159 from by first | exact (Kd.R_below (by (with_reducible repeat (first | apply Kd.R_alloc | apply Kd.R_drewN | apply Kd.R_drew)); exact (Q_HO161 h0_)) hb) | exact Kd.R_mono (Kd.R_below (by (with_reducible repeat (first | apply Kd.R_alloc | apply Kd.R_drewN | apply Kd.R_drew)); exact (Q_HO161 h0_)) hb) (fun _ h_ => by first | trivial | exact h_ | exact h_.1))
                                  clear HO_6
                                  clear HO153
                                  clear HO157
                                  clear HB
                                  have HO_6 := n0_
                                  have HO153 := n1_
                                  have HO157 := n2_
                                  have HB := n3_
                                  clear n0_ n1_ n2_ n3_
                                  (try clear hb)
                                  (try clear hb2)
                                  (try clear hk)
                                  (try clear hi)
                                  refine hK.out _ _ ⟨v152, .slice Ao45 y155.length co45, v160, (by rw [ha.out]; exact putSel_upk 12 hb_ rfl rfl rfl), (by (with_reducible repeat (first | apply Kd.R_alloc | apply Kd.R_drewN | apply Kd.R_drew)); first | exact HO_6.out | exact Kd.R_mono HO_6.out (fun _ h_ => (by first | trivial | exact h_ | (repeat' (first | exact True.intro | exact h_.1 | exact h_.2 | exact h_.1.1 | exact h_.1.2 | exact h_.2.1 | exact h_.2.2 | exact h_.1.1.1 | exact h_.1.1.2 | exact h_.1.2.1 | exact h_.1.2.2 | refine ⟨?_, ?_⟩))))), (by repeat (first | (with_reducible first | exact HB.out | apply below_alloc | apply pw_below_drewN | apply below_drew1) | exact HB.out)), fun _ => (by (with_reducible repeat (first | apply Kd.R_alloc | apply Kd.R_drewN | apply Kd.R_drew)); first | exact HO153.out | exact Kd.R_mono HO153.out (fun _ h_ => (by first | trivial | exact h_ | (repeat' (first | exact True.intro | exact h_.1 | exact h_.2 | exact h_.1.1 | exact h_.1.2 | exact h_.2.1 | exact h_.2.2 | exact h_.1.1.1 | exact h_.1.1.2 | exact h_.1.2.1 | exact h_.1.2.2 | refine ⟨?_, ?_⟩))))), fun _ => (by (with_reducible repeat (first | apply Kd.R_alloc | apply Kd.R_drewN | apply Kd.R_drew)); first | exact HO157.out | exact Kd.R_mono HO157.out (fun _ h_ => (by first | trivial | exact h_ | (repeat' (first | exact True.intro | exact h_.1 | exact h_.2 | exact h_.1.1 | exact h_.1.2 | exact h_.2.1 | exact h_.2.2 | exact h_.1.1.1 | exact h_.1.1.2 | exact h_.1.2.1 | exact h_.1.2.2 | refine ⟨?_, ?_⟩))))), z_HO161⟩
                                refine steps_cons ?_ ?_
                                · rintro b a w' ⟨v152, v156, v160, ha, Q_HO_6, Q_HB, Q_HO153, Q_HO157, Q_HO161⟩ hb_ hon hoff
                                  refine ⟨_, rfl, fun K hK => ?_⟩
                                  have e53 : a.tmps[53]? = some (.bool (t140 == (Go.bits .xor .u32 (Go.bits .xor .u32 t145 t150) t154))) := by rw [ha]; exact putSel_on (e := (16, 53, .bool (t140 == (Go.bits .xor .u32 (Go.bits .xor .u32 t145 t150) t154)))) 10 rfl rfl (hon 16 (by kernel_rfl)) rfl
                                  replace ha := Aside0.mk ha
                                  have HO_6 := Aside0.mk Q_HO_6
                                  have HB := Aside0.mk Q_HB
                                  have HO153 := Aside0.mk (Q_HO153 (hon 12 (by kernel_rfl)))
                                  refine Kd.R_lit_step (Kd.int .u8) _ 5 ?hg (N := 56) ?hd (xs := ([2] : List Int)) (inner := [.int .u8 2]) (ok := fun _ => True) (okp := fun _ => True) ?hr ?hp (fun _ hk => hk) trivial (Below.refl _ _) (Nat.le_refl _) (by simp) ?_; (case hd => rfl); (case hg => first | rfl | (simp [Region.wanted, yielded, e53, *]; done)); (case hr => first | (go_simp; done) | (go_simp; rfl)); (case hp => exact (Reps.one (show Kd.M (Kd.int .u8) _ _ _ 2 [.int .u8 2] from rfl) (Reps.none _ _)))
                                  intro v160 w43 ho44 hb hg_ hnew_
                                  clear hg_ hnew_
                                  (first | rw [← Ny159.out] at ho44 | (simp only [Int.reduceToNat] at ho44; rw [← Ny159.out] at ho44))
                                  have n0_ := Aside0.mk (Kd.R_elder' (by (with_reducible repeat (first | apply Kd.R_alloc | apply Kd.R_drewN | apply Kd.R_drew)); exact HO_6.out) (Kd.R_base ho44) hb)
                                  have n1_ := Aside0.mk (Kd.R_elder' (by (with_reducible repeat (first | apply Kd.R_alloc | apply Kd.R_drewN | apply Kd.R_drew)); exact HO153.out) (Kd.R_base ho44) hb)
                                  have n2_ := Aside0.mk (Kd.R_lower (Kd.R_new' (Kd.R_new' ho44 (Kd.R_lt (by (with_reducible repeat (first | apply Kd.R_alloc | apply Kd.R_drewN | apply Kd.R_drew)); exact HO_6.out))) (Kd.R_lt (by (with_reducible repeat (first | apply Kd.R_alloc | apply Kd.R_drewN | apply Kd.R_drew)); exact HO153.out))) (below_size (by repeat (first | (with_reducible first | exact HB.out | apply below_alloc | apply pw_below_drewN | apply below_drew1) | exact HB.out))))
                                  have n3_ := Aside0.mk (below_step (by repeat (first | (with_reducible first | exact HB.out | apply below_alloc | apply pw_below_drewN | apply below_drew1) | exact HB.out)) hb)
                                  have z_HO157 := fun (h0_ : b 17 = true) => (show Kd.R (Kd.int .u8) 5 w43 w.heap.size (fun k_ => some k_ ≠ (.slice Ao31 x6_2.length co31 : Value).ownBlock) v156 y155 from by first | exact (Kd.R_elder' (by (with_reducible repeat (first | apply Kd.R_alloc | apply Kd.R_drewN | apply Kd.R_drew)); exact (Q_HO157 h0_)) (Kd.R_base ho44) hb) | exact Kd.R_mono (Kd.R_elder' (by (with_reducible repeat (first | apply Kd.R_alloc | apply Kd.R_drewN | apply Kd.R_drew)); exact (Q_HO157 h0_)) (Kd.R_base ho44) hb) (fun _ h_ => by first | trivial | exact h_ | exact h_.1))
                                  clear HO_6
                                  clear HO153
                                  clear HB
                                  have HO_6 := n0_
                                  have HO153 := n1_
                                  have HO161 := n2_
                                  have HB := n3_
                                  clear n0_ n1_ n2_ n3_
                                  clear hb ho44
                                  refine hK.out _ _ ⟨v152, v156, v160, (by rw [ha.out]; exact putSel_upk 13 hb_ rfl rfl rfl), (by (with_reducible repeat (first | apply Kd.R_alloc | apply Kd.R_drewN | apply Kd.R_drew)); first | exact HO_6.out | exact Kd.R_mono HO_6.out (fun _ h_ => (by first | trivial | exact h_ | (repeat' (first | exact True.intro | exact h_.1 | exact h_.2 | exact h_.1.1 | exact h_.1.2 | exact h_.2.1 | exact h_.2.2 | exact h_.1.1.1 | exact h_.1.1.2 | exact h_.1.2.1 | exact h_.1.2.2 | refine ⟨?_, ?_⟩))))), (by repeat (first | (with_reducible first | exact HB.out | apply below_alloc | apply pw_below_drewN | apply below_drew1) | exact HB.out)), fun _ => (by (with_reducible repeat (first | apply Kd.R_alloc | apply Kd.R_drewN | apply Kd.R_drew)); first | exact Kd.R_mono HO153.out (fun _ hk => ⟨hk.2, hk.1⟩) | exact Kd.R_mono HO153.out (fun _ h_ => (by first | trivial | exact h_ | (repeat' (first | exact True.intro | exact h_.1 | exact h_.2 | exact h_.1.1 | exact h_.1.2 | exact h_.2.1 | exact h_.2.2 | exact h_.1.1.1 | exact h_.1.1.2 | exact h_.1.2.1 | exact h_.1.2.2 | refine ⟨?_, ?_⟩))))), z_HO157, fun _ => (by (with_reducible repeat (first | apply Kd.R_alloc | apply Kd.R_drewN | apply Kd.R_drew)); first | exact Kd.R_mono HO161.out (fun _ hk => ⟨hk.2, hk.1.2⟩) | exact Kd.R_mono HO161.out (fun _ h_ => (by first | trivial | exact h_ | (repeat' (first | exact True.intro | exact h_.1 | exact h_.2 | exact h_.1.1 | exact h_.1.2 | exact h_.2.1 | exact h_.2.2 | exact h_.1.1.1 | exact h_.1.1.2 | exact h_.1.2.1 | exact h_.1.2.2 | refine ⟨?_, ?_⟩)))))⟩
                                refine steps_cons ?_ ?_
                                · rintro b a w' ⟨v152, v156, v160, ha, Q_HO_6, Q_HB, Q_HO153, Q_HO157, Q_HO161⟩ hb_ hon hoff
                                  refine ⟨_, rfl, fun K hK => ?_⟩
                                  have e56 : a.tmps[56]? = some (v160) := by rw [ha]; exact putSel_on (e := (19, 56, v160)) 13 rfl rfl (hon 19 (by kernel_rfl)) rfl
                                  have e53 : a.tmps[53]? = some (.bool (t140 == (Go.bits .xor .u32 (Go.bits .xor .u32 t145 t150) t154))) := by rw [ha]; exact putSel_on (e := (16, 53, .bool (t140 == (Go.bits .xor .u32 (Go.bits .xor .u32 t145 t150) t154)))) 10 rfl rfl (hon 16 (by kernel_rfl)) rfl
                                  replace ha := Aside0.mk ha
                                  have HO_6 := Aside0.mk Q_HO_6
                                  have HB := Aside0.mk Q_HB
                                  have HO153 := Aside0.mk (Q_HO153 (hon 12 (by kernel_rfl)))
                                  have HO157 := Aside0.mk (Q_HO157 (hon 17 (by kernel_rfl)))
                                  have HO161 := Aside0.mk (Q_HO161 (hon 19 (by kernel_rfl)))
                                  obtain ⟨Ao49, co49, eo49⟩ := Kd.R_slice HO161.out
                                  (first | subst eo49 | (injection eo49 with f1_ f2_ f3_; have f4_ := f1_.symm; have f5_ := f3_.symm; clear f1_ f2_ f3_; subst f4_; subst f5_))
                                  refine goes_ Try.func13 (by kernel_rfl) rfl #[.slice Ao49 y159.length co49] (by first | rfl | (simp [Region.wanted, yielded, e56, e53, *]; done)) rfl rfl (by first | (simp only [List.map_toArray, List.map_cons, List.map_nil, Act.eval, Array.getD_eq_getD_getElem?, Option.getD_some, e56, e53]; done) | (simp only [List.map_toArray, List.map_cons, List.map_nil, Act.eval, Array.getD_eq_getD_getElem?, Option.getD_some, e56, e53]; rfl)) ?_
                                  with_reducible refine (bits_Sum.callsB k2 _ _ y159 t162 _ ?side1 ?side2 A29.out).mono ?_
                                  (case side1 => repeat (first | exact (Kd.R_reads' HO161.out).2.2 | (with_reducible refine Kd.C_alloc ?_ _) | (with_reducible refine Kd.C_drewN ?_ _) | (with_reducible refine Kd.C_drew ?_)))
                                  (case side2 => exact (Kd.R_reads' HO161.out).2.1)
                                  rintro e w50 ⟨rfl, hb⟩
                                  refine ⟨_, rfl, ?_⟩
                                  have n0_ := Aside0.mk (Kd.R_below (by (with_reducible repeat (first | apply Kd.R_alloc | apply Kd.R_drewN | apply Kd.R_drew)); exact HO_6.out) hb)
                                  have n1_ := Aside0.mk (Kd.R_below (by (with_reducible repeat (first | apply Kd.R_alloc | apply Kd.R_drewN | apply Kd.R_drew)); exact HO153.out) hb)
                                  have n2_ := Aside0.mk (Kd.R_below (by (with_reducible repeat (first | apply Kd.R_alloc | apply Kd.R_drewN | apply Kd.R_drew)); exact HO157.out) hb)
                                  have n3_ := Aside0.mk (Kd.R_below (by (with_reducible repeat (first | apply Kd.R_alloc | apply Kd.R_drewN | apply Kd.R_drew)); exact HO161.out) hb)
                                  have n4_ := Aside0.mk (below_step (by repeat (first | (with_reducible first | exact HB.out | apply below_alloc | apply pw_below_drewN | apply below_drew1) | exact HB.out)) hb)
                                  clear HO_6
                                  clear HO153
                                  clear HO157
                                  clear HO161
                                  clear HB
                                  have HO_6 := n0_
                                  have HO153 := n1_
                                  have HO157 := n2_
                                  have HO161 := n3_
                                  have HB := n4_
                                  clear n0_ n1_ n2_ n3_ n4_
                                  (try clear hb)
                                  (try clear hb2)
                                  (try clear hk)
                                  (try clear hi)
                                  refine hK.out _ _ ⟨v152, v156, .slice Ao49 y159.length co49, (by rw [ha.out]; exact putSel_upk 14 hb_ rfl rfl rfl), (by (with_reducible repeat (first | apply Kd.R_alloc | apply Kd.R_drewN | apply Kd.R_drew)); first | exact HO_6.out | exact Kd.R_mono HO_6.out (fun _ h_ => (by first | trivial | exact h_ | (repeat' (first | exact True.intro | exact h_.1 | exact h_.2 | exact h_.1.1 | exact h_.1.2 | exact h_.2.1 | exact h_.2.2 | exact h_.1.1.1 | exact h_.1.1.2 | exact h_.1.2.1 | exact h_.1.2.2 | refine ⟨?_, ?_⟩))))), (by repeat (first | (with_reducible first | exact HB.out | apply below_alloc | apply pw_below_drewN | apply below_drew1) | exact HB.out)), fun _ => (by (with_reducible repeat (first | apply Kd.R_alloc | apply Kd.R_drewN | apply Kd.R_drew)); first | exact HO153.out | exact Kd.R_mono HO153.out (fun _ h_ => (by first | trivial | exact h_ | (repeat' (first | exact True.intro | exact h_.1 | exact h_.2 | exact h_.1.1 | exact h_.1.2 | exact h_.2.1 | exact h_.2.2 | exact h_.1.1.1 | exact h_.1.1.2 | exact h_.1.2.1 | exact h_.1.2.2 | refine ⟨?_, ?_⟩))))), fun _ => (by (with_reducible repeat (first | apply Kd.R_alloc | apply Kd.R_drewN | apply Kd.R_drew)); first | exact HO157.out | exact Kd.R_mono HO157.out (fun _ h_ => (by first | trivial | exact h_ | (repeat' (first | exact True.intro | exact h_.1 | exact h_.2 | exact h_.1.1 | exact h_.1.2 | exact h_.2.1 | exact h_.2.2 | exact h_.1.1.1 | exact h_.1.1.2 | exact h_.1.2.1 | exact h_.1.2.2 | refine ⟨?_, ?_⟩))))), fun _ => (by (with_reducible repeat (first | apply Kd.R_alloc | apply Kd.R_drewN | apply Kd.R_drew)); first | exact HO161.out | exact Kd.R_mono HO161.out (fun _ h_ => (by first | trivial | exact h_ | (repeat' (first | exact True.intro | exact h_.1 | exact h_.2 | exact h_.1.1 | exact h_.1.2 | exact h_.2.1 | exact h_.2.2 | exact h_.1.1.1 | exact h_.1.1.2 | exact h_.1.2.1 | exact h_.1.2.2 | refine ⟨?_, ?_⟩)))))⟩
                                refine steps_cons ?_ ?_
                                · rintro b a w' ⟨v152, v156, v160, ha, Q_HO_6, Q_HB, Q_HO153, Q_HO157, Q_HO161⟩ hb_ hon hoff
                                  refine ⟨_, rfl, fun K hK => ?_⟩
                                  have e55 : a.tmps[55]? = some (.int .u32 t158) := by rw [ha]; exact putSel_on (e := (18, 55, .int .u32 t158)) 12 rfl rfl (hon 18 (by kernel_rfl)) rfl
                                  have e57 : a.tmps[57]? = some (.int .u32 t162) := by rw [ha]; exact putSel_on (e := (20, 57, .int .u32 t162)) 14 rfl rfl (hon 20 (by kernel_rfl)) rfl
                                  have e53 : a.tmps[53]? = some (.bool (t140 == (Go.bits .xor .u32 (Go.bits .xor .u32 t145 t150) t154))) := by rw [ha]; exact putSel_on (e := (16, 53, .bool (t140 == (Go.bits .xor .u32 (Go.bits .xor .u32 t145 t150) t154)))) 10 rfl rfl (hon 16 (by kernel_rfl)) rfl
                                  replace ha := Aside0.mk ha
                                  have HO_6 := Aside0.mk Q_HO_6
                                  have HB := Aside0.mk Q_HB
                                  have HO153 := Aside0.mk (Q_HO153 (hon 12 (by kernel_rfl)))
                                  have HO157 := Aside0.mk (Q_HO157 (hon 17 (by kernel_rfl)))
                                  have HO161 := Aside0.mk (Q_HO161 (hon 19 (by kernel_rfl)))
                                  refine value_ (w1 := w') (v := .bool (t158 != t162)) (wanted_on rfl rfl rfl (e53.trans (by first | rfl | (simp [*]; done)))) rfl ?_ ?_
                                  · go_simp
                                    (try simp only [i64_w])
                                    try rfl
                                  refine hK.out _ _ ⟨v152, v156, v160, (by rw [ha.out]; exact putSel_upk 15 hb_ rfl rfl rfl), Q_HO_6, Q_HB, Q_HO153, Q_HO157, Q_HO161⟩
                                refine steps_cons ?_ ?_
                                · rintro b a w' ⟨v152, v156, v160, ha, Q_HO_6, Q_HB, Q_HO153, Q_HO157, Q_HO161⟩ hb_ hon hoff
                                  refine ⟨_, rfl, fun K hK => ?_⟩
                                  have e53 : a.tmps[53]? = some (.bool (t140 == (Go.bits .xor .u32 (Go.bits .xor .u32 t145 t150) t154))) := by rw [ha]; exact putSel_on (e := (16, 53, .bool (t140 == (Go.bits .xor .u32 (Go.bits .xor .u32 t145 t150) t154)))) 10 rfl rfl (hon 16 (by kernel_rfl)) rfl
                                  have e58 : a.tmps[58]? = some (.bool (t158 != t162)) := by rw [ha]; exact putSel_on (e := (21, 58, .bool (t158 != t162))) 15 rfl rfl (hon 21 (by kernel_rfl)) rfl
                                  replace ha := Aside0.mk ha
                                  have HO_6 := Aside0.mk Q_HO_6
                                  have HB := Aside0.mk Q_HB
                                  have HO153 := Aside0.mk (Q_HO153 (hon 12 (by kernel_rfl)))
                                  have HO157 := Aside0.mk (Q_HO157 (hon 17 (by kernel_rfl)))
                                  have HO161 := Aside0.mk (Q_HO161 (hon 19 (by kernel_rfl)))
                                  refine value_ (w1 := w') (v := .bool (t158 != t162)) (by first | rfl | (simp [Region.wanted, yielded, e53, e58, *]; done)) rfl ?_ ?_
                                  · go_simp
                                    (try simp only [i64_w])
                                    try rfl
                                  refine hK.out _ _ ⟨v152, v156, v160, (by rw [ha.out]; exact putSel_upk 16 hb_ rfl rfl rfl), Q_HO_6, Q_HB, Q_HO153, Q_HO157, Q_HO161⟩
                                refine steps_cons ?_ ?_
                                · rintro b a w' ⟨v152, v156, v160, ha, Q_HO_6, Q_HB, Q_HO153, Q_HO157, Q_HO161⟩ hb_ hon hoff
                                  refine ⟨_, rfl, fun K hK => ?_⟩
                                  have e59 : a.tmps[59]? = some (.bool (t158 != t162)) := by rw [ha]; exact putSel_on (e := (22, 59, .bool (t158 != t162))) 16 rfl rfl (hon 22 (by kernel_rfl)) rfl
                                  replace ha := Aside0.mk ha
                                  have HO_6 := Aside0.mk Q_HO_6
                                  have HB := Aside0.mk Q_HB
                                  have HO153 := Aside0.mk (Q_HO153 (hon 12 (by kernel_rfl)))
                                  have HO157 := Aside0.mk (Q_HO157 (hon 17 (by kernel_rfl)))
                                  have HO161 := Aside0.mk (Q_HO161 (hon 19 (by kernel_rfl)))
                                  refine value_ (w1 := w') (v := .bool (t158 != t162)) (by first | rfl | (simp [Region.wanted, yielded, e59, *]; done)) rfl ?_ ?_
                                  · go_simp
                                    (try simp only [i64_w])
                                    try rfl
                                  refine hK.out _ _ ⟨v152, v156, v160, (by rw [ha.out]; exact putSel_upk 17 hb_ rfl rfl rfl), Q_HO_6, Q_HB, Q_HO153, Q_HO157, Q_HO161⟩
                                refine steps_cons ?_ ?_
                                · rintro b a w' ⟨v152, v156, v160, ha, Q_HO_6, Q_HB, Q_HO153, Q_HO157, Q_HO161⟩ hb_ hon hoff
                                  refine ⟨_, rfl, fun K hK => ?_⟩
                                  have e60 : a.tmps[60]? = some (.bool (t158 != t162)) := by rw [ha]; exact putSel_on (e := (23, 60, .bool (t158 != t162))) 17 rfl rfl (hon 23 (by kernel_rfl)) rfl
                                  replace ha := Aside0.mk ha
                                  have HO_6 := Aside0.mk Q_HO_6
                                  have HB := Aside0.mk Q_HB
                                  have HO153 := Aside0.mk (Q_HO153 (hon 12 (by kernel_rfl)))
                                  have HO157 := Aside0.mk (Q_HO157 (hon 17 (by kernel_rfl)))
                                  have HO161 := Aside0.mk (Q_HO161 (hon 19 (by kernel_rfl)))
                                  refine off_ (wanted_off rfl rfl rfl (e60.trans (by first | rfl | (simp [*]; done)))) ?_
                                  refine hK.out _ _ ⟨v152, v156, v160, (by rw [ha.out]; exact putSel_upk 18 hb_ rfl rfl rfl), Q_HO_6, Q_HB, Q_HO153, Q_HO157, Q_HO161⟩
                                refine steps_cons ?_ ?_
                                · rintro b a w' ⟨v152, v156, v160, ha, Q_HO_6, Q_HB, Q_HO153, Q_HO157, Q_HO161⟩ hb_ hon hoff
                                  refine ⟨_, rfl, fun K hK => ?_⟩
                                  have e60 : a.tmps[60]? = some (.bool (t158 != t162)) := by rw [ha]; exact putSel_on (e := (23, 60, .bool (t158 != t162))) 17 rfl rfl (hon 23 (by kernel_rfl)) rfl
                                  have e61 : a.tmps[61]? = some (undef) := by rw [ha]; exact putSel_on (e := (24, 61, undef)) 18 rfl rfl (hon 24 (by kernel_rfl)) rfl
                                  replace ha := Aside0.mk ha
                                  have HO_6 := Aside0.mk Q_HO_6
                                  have HB := Aside0.mk Q_HB
                                  have HO153 := Aside0.mk (Q_HO153 (hon 12 (by kernel_rfl)))
                                  have HO157 := Aside0.mk (Q_HO157 (hon 17 (by kernel_rfl)))
                                  have HO161 := Aside0.mk (Q_HO161 (hon 19 (by kernel_rfl)))
                                  refine value_ (w1 := w') (v := .bool false) (by first | rfl | (simp [Region.wanted, yielded, e60, e61, *]; done)) rfl ?_ ?_
                                  · go_simp
                                    (try simp only [i64_w])
                                    try rfl
                                  refine hK.out _ _ ⟨v152, v156, v160, (by rw [ha.out]; exact putSel_upk 19 hb_ rfl rfl rfl), Q_HO_6, Q_HB, Q_HO153, Q_HO157, Q_HO161⟩
                                refine steps_cons ?_ ?_
                                · rintro b a w' ⟨v152, v156, v160, ha, Q_HO_6, Q_HB, Q_HO153, Q_HO157, Q_HO161⟩ hb_ hon hoff
                                  refine ⟨_, rfl, fun K hK => ?_⟩
                                  have e62 : a.tmps[62]? = some (.bool false) := by rw [ha]; exact putSel_on (e := (25, 62, .bool false)) 19 rfl rfl (hon 25 (by kernel_rfl)) rfl
                                  replace ha := Aside0.mk ha
                                  have HO_6 := Aside0.mk Q_HO_6
                                  have HB := Aside0.mk Q_HB
                                  have HO153 := Aside0.mk (Q_HO153 (hon 12 (by kernel_rfl)))
                                  have HO157 := Aside0.mk (Q_HO157 (hon 17 (by kernel_rfl)))
                                  have HO161 := Aside0.mk (Q_HO161 (hon 19 (by kernel_rfl)))
                                  refine value_ (w1 := w') (v := .bool false) (by first | rfl | (simp [Region.wanted, yielded, e62, *]; done)) rfl ?_ ?_
                                  · go_simp
                                    (try simp only [i64_w])
                                    try rfl
                                  refine hK.out _ _ ⟨v152, v156, v160, (by rw [ha.out]; exact putSel_upk 20 hb_ rfl rfl rfl), Q_HO_6, Q_HB, Q_HO153, Q_HO157, Q_HO161⟩
                                exact steps_nil
                              rintro b a w50 hall ⟨v152, v156, v160, ha, Q_HO_6, Q_HB, Q_HO153, Q_HO157, Q_HO161⟩
                              clear HB HO_6
                              have hb1_ := hall 1 (by kernel_rfl)
                              have hb4_ := hall 4 (by kernel_rfl)
                              have hb5_ := hall 5 (by kernel_rfl)
                              have hb8_ := hall 8 (by kernel_rfl)
                              have hb9_ := hall 9 (by kernel_rfl)
                              have hb10_ := hall 10 (by kernel_rfl)
                              have hb12_ := hall 12 (by kernel_rfl)
                              have hb13_ := hall 13 (by kernel_rfl)
                              have hb14_ := hall 14 (by kernel_rfl)
                              have hb15_ := hall 15 (by kernel_rfl)
                              have hb16_ := hall 16 (by kernel_rfl)
                              have hb17_ := hall 17 (by kernel_rfl)
                              have hb18_ := hall 18 (by kernel_rfl)
                              have hb19_ := hall 19 (by kernel_rfl)
                              have hb20_ := hall 20 (by kernel_rfl)
                              have hb21_ := hall 21 (by kernel_rfl)
                              have hb22_ := hall 22 (by kernel_rfl)
                              have hb23_ := hall 23 (by kernel_rfl)
                              have hb24_ := hall 24 (by kernel_rfl)
                              have hb25_ := hall 25 (by kernel_rfl)
                              have hb26_ := hall 26 (by kernel_rfl)
                              subst ha
                              simp only [putSel, hb1_, hb4_, hb5_, hb8_, hb9_, hb10_, hb12_, hb13_, hb14_, hb15_, hb16_, hb17_, hb18_, hb19_, hb20_, hb21_, hb22_, hb23_, hb24_, hb25_, hb26_, if_true, Act.put, List.setIfInBounds_toArray, List.set_cons_zero, List.set_cons_succ]
                              have HO_6 := Aside0.mk Q_HO_6
                              clear Q_HO_6
                              have HB := Aside0.mk Q_HB
                              clear Q_HB
                              have HO153 := Aside0.mk (Q_HO153 hb12_)
                              clear Q_HO153
                              have HO157 := Aside0.mk (Q_HO157 hb17_)
                              clear Q_HO157
                              have HO161 := Aside0.mk (Q_HO161 hb19_)
                              clear Q_HO161
                              clear hall hb1_ hb4_ hb5_ hb8_ hb9_ hb10_ hb12_ hb13_ hb14_ hb15_ hb16_ hb17_ hb18_ hb19_ hb20_ hb21_ hb22_ hb23_ hb24_ hb25_ hb26_
                              try go_wp2
                              go_ret
                              exact ⟨by first | rfl | (simp [errW_none, errW_some] <;> rfl) | (simp [*, errW_none, errW_some] <;> rfl), by repeat (first | (with_reducible first | exact HB.out | apply below_alloc | apply pw_below_drewN | apply below_drew1) | exact HB.out)⟩
                            · rw [if_neg c30] at H
                              have c30b0 : (t158 == t162) = false := beq_eq_false_iff_ne.mpr c30
                              have c30b1 : (t158 != t162) = true := bne_iff_ne.mpr c30
                              replace H := Option.bind_eq_some_iff.mp H
                              obtain ⟨t163, A510, H⟩ := H
                              replace H : (some t163) = some r := H
                              have A51 := Aside0.mk A510
                              clear A510
                              obtain rfl := Option.some.inj H
                              obtain ⟨Ao52, co52, eo52⟩ := Kd.R_slice HO_6.out
                              subst eo52
                              try go_wp2
                              have n0_ := Aside0.mk (Kd.R_drew HO_6.out)
                              have n1_ := Aside0.mk (below_drew1 HB.out)
                              clear HO_6
                              clear HB
                              have HO_6 := n0_
                              have HB := n1_
                              clear n0_ n1_
                              have q54 : (x5_2 : Int) ≤ ((l0.length : Int) : Int) := of_decide_eq_true (by first | (with_reducible assumption) | assumption)
                              obtain ⟨i054, hi054, _, hsz54, _⟩ := info_parts info5
                              have hroom54 : l0.length ≤ c0 := HC0.out
                              have hC54 : Kd.C (Kd.int .u8) _ A0 l0.length l0 := HR0.out
                              have hcut54 := cut_to (P := Try.prog) 22 5 .i64 Try.underlying22 hi054 A0 l0.length c0 x5_2 (of_decide_eq_true (by first | (with_reducible assumption) | assumption)) q54 hroom54
                              have hr54 := Kd.C_take (m := (x5_2 : Int).toNat) hC54 (by omega)
                              have hy54 : y141.length = (x5_2 : Int).toNat := (by rw [Ny141.out, List.length_take]; omega)
                              rw [← Ny141.out] at hr54
                              rw [← hy54] at hcut54
                              have HR144 := Aside0.mk hr54
                              have HC144 := Aside0.mk (show y141.length ≤ c0 from by omega)
                              clear hr54 hC54 hroom54 hi054 hsz54
                              have KY54 := Aside0.mk hy54
                              clear hy54
                              replace q54 := eq_true q54
                              have q55 : (x5_2 : Int) ≤ ((l1.length : Int) : Int) := of_decide_eq_true (by first | (with_reducible assumption) | assumption)
                              obtain ⟨i055, hi055, _, hsz55, _⟩ := info_parts info5
                              have hroom55 : l1.length ≤ c1 := HC1.out
                              have hC55 : Kd.C (Kd.int .u8) _ A1 l1.length l1 := HR1.out
                              have hcut55 := cut_to (P := Try.prog) 22 5 .i64 Try.underlying22 hi055 A1 l1.length c1 x5_2 (of_decide_eq_true (by first | (with_reducible assumption) | assumption)) q55 hroom55
                              have hr55 := Kd.C_take (m := (x5_2 : Int).toNat) hC55 (by omega)
                              have hy55 : y146.length = (x5_2 : Int).toNat := (by rw [Ny146.out, List.length_take]; omega)
                              rw [← Ny146.out] at hr55
                              rw [← hy55] at hcut55
                              have HR149 := Aside0.mk hr55
                              have HC149 := Aside0.mk (show y146.length ≤ c1 from by omega)
                              clear hr55 hC55 hroom55 hi055 hsz55
                              have KY55 := Aside0.mk hy55
                              clear hy55
                              replace q55 := eq_true q55
                              refine start_ (n := 27) (S := fun w' => True) (ds := []) #[false, false, false, false, false, false, false, false, false, false, false, false, false, false, false, false, false, false, false, false, false, false, false, false, false, false, false] (by kernel_rfl) rfl rfl trivial (fun hHeld => ?_); refine with_tabW dioramalaw01_BitsLinear.tab11 dioramalaw01_BitsLinear.bits11 (fun HT_ HW_ => ?_)
                              generalize wr.drew = w53 at HO_6 HB HR144 HR149 hHeld ⊢
                              refine pure_ (i := 0) (N := some 37) (v := ?_) (a' := ?_) #[true, false, false, false, false, false, false, false, false, false, false, false, false, false, false, false, false, false, false, false, false, false, false, false, false, false, false] rfl rfl (any_of HT_.out (by kernel_rfl)) (fun _ _ _ h => h) (Or.inl ⟨by rfl, ?_⟩) ?_ ?_
                              rotate_left
                              · intro w'
                                go_simp
                                with_reducible rfl
                              rotate_left
                              · simp only [Act.put, List.setIfInBounds_toArray, List.set_cons_zero, List.set_cons_succ, i64_w, i32_w]
                                rfl
                              refine pure_ (i := 2) (N := some 39) (v := ?_) (a' := ?_) #[true, false, true, false, false, false, false, false, false, false, false, false, false, false, false, false, false, false, false, false, false, false, false, false, false, false, false] rfl rfl (any_of HT_.out (by kernel_rfl)) (fun _ _ _ h => h) (Or.inl ⟨by rfl, ?_⟩) ?_ ?_
                              rotate_left
                              · intro w'
                                go_simp
                                with_reducible rfl
                              rotate_left
                              · simp only [Act.put, List.setIfInBounds_toArray, List.set_cons_zero, List.set_cons_succ, i64_w, i32_w]
                                rfl
                              refine pure_ (i := 3) (N := some 40) (v := ?_) (a' := ?_) #[true, false, true, true, false, false, false, false, false, false, false, false, false, false, false, false, false, false, false, false, false, false, false, false, false, false, false] rfl rfl (any_of HT_.out (by kernel_rfl)) (fun _ _ _ h => h) (Or.inl ⟨by rfl, ?_⟩) ?_ ?_
                              rotate_left
                              · intro w'
                                go_simp
                                with_reducible rfl
                              rotate_left
                              · simp only [Act.put, List.setIfInBounds_toArray, List.set_cons_zero, List.set_cons_succ, i64_w, i32_w]
                                rfl
                              refine pure_ (i := 6) (N := some 43) (v := ?_) (a' := ?_) #[true, false, true, true, false, false, true, false, false, false, false, false, false, false, false, false, false, false, false, false, false, false, false, false, false, false, false] rfl rfl (any_of HT_.out (by kernel_rfl)) (fun _ _ _ h => h) (Or.inl ⟨by rfl, ?_⟩) ?_ ?_
                              rotate_left
                              · intro w'
                                go_simp
                                with_reducible rfl
                              rotate_left
                              · simp only [Act.put, List.setIfInBounds_toArray, List.set_cons_zero, List.set_cons_succ, i64_w, i32_w]
                                rfl
                              refine pure_ (i := 7) (N := some 44) (v := ?_) (a' := ?_) #[true, false, true, true, false, false, true, true, false, false, false, false, false, false, false, false, false, false, false, false, false, false, false, false, false, false, false] rfl rfl (any_of HT_.out (by kernel_rfl)) (fun _ _ _ h => h) (Or.inl ⟨by rfl, ?_⟩) ?_ ?_
                              rotate_left
                              · intro w'
                                go_simp
                                with_reducible rfl
                              rotate_left
                              · simp only [Act.put, List.setIfInBounds_toArray, List.set_cons_zero, List.set_cons_succ, i64_w, i32_w]
                                rfl
                              refine pure_ (i := 11) (N := some 48) (v := ?_) (a' := ?_) #[true, false, true, true, false, false, true, true, false, false, false, true, false, false, false, false, false, false, false, false, false, false, false, false, false, false, false] rfl rfl (any_of HT_.out (by kernel_rfl)) (fun _ _ _ h => h) (Or.inl ⟨by rfl, ?_⟩) ?_ ?_
                              rotate_left
                              · intro w'
                                go_simp
                                with_reducible rfl
                              rotate_left
                              · simp only [Act.put, List.setIfInBounds_toArray, List.set_cons_zero, List.set_cons_succ, i64_w, i32_w]
                                rfl
                              refine inv_at [1, 4, 5, 8, 9, 10, 12, 13, 14, 15, 16, 17, 18, 19, 20, 21, 22, 23, 24, 25, 26] (fun a0_ b a w' => ∃ (v152 : Value) (v156 : Value) (v160 : Value), a = putSel a0_ b [(1, 38, .int .u32 t140), (4, 41, .slice A0 y141.length c0), (5, 42, .int .u32 t145), (8, 45, .slice A1 y146.length c1), (9, 46, .int .u32 t150), (10, 47, .int .u32 (Go.bits .xor .u32 t145 t150)), (12, 49, v152), (13, 50, .int .u32 t154), (14, 51, .int .u32 (Go.bits .xor .u32 (Go.bits .xor .u32 t145 t150) t154)), (15, 52, .bool (t140 == (Go.bits .xor .u32 (Go.bits .xor .u32 t145 t150) t154))), (16, 53, .bool (t140 == (Go.bits .xor .u32 (Go.bits .xor .u32 t145 t150) t154))), (17, 54, v156), (18, 55, .int .u32 t158), (19, 56, v160), (20, 57, .int .u32 t162), (21, 58, .bool (t158 != t162)), (22, 59, .bool (t158 != t162)), (23, 60, .bool (t158 != t162)), (24, 61, .bool t163), (25, 62, .bool t163), (26, 4, .bool t163)] ∧ (Kd.R (Kd.int .u8) 5 w' w.heap.size (fun _ => True) (.slice Ao52 x6_2.length co52) x6_2) ∧ (Below w.heap.size w w') ∧ (b 12 = true → Kd.R (Kd.int .u8) 5 w' w.heap.size (fun k_ => some k_ ≠ (.slice Ao52 x6_2.length co52 : Value).ownBlock) v152 y151) ∧ (b 17 = true → Kd.R (Kd.int .u8) 5 w' w.heap.size (fun k_ => some k_ ≠ (.slice Ao52 x6_2.length co52 : Value).ownBlock) v156 y155) ∧ (b 19 = true → Kd.R (Kd.int .u8) 5 w' w.heap.size (fun k_ => some k_ ≠ (.slice Ao52 x6_2.length co52 : Value).ownBlock) v160 y159)) HT_.out HW_.out (by kernel_rfl) (by kernel_rfl) ?_ ?_ ?_
                              · exact ⟨.bool false, .bool false, .bool false, by simp only [putSel, Bool.false_eq_true, if_false], HO_6.out, HB.out, fun h_ => absurd h_ (by decide), fun h_ => absurd h_ (by decide), fun h_ => absurd h_ (by decide)⟩
                              · skip
                                clear HB HO_6
                                refine steps_cons ?_ ?_
                                · rintro b a w' ⟨v152, v156, v160, ha, Q_HO_6, Q_HB, Q_HO153, Q_HO157, Q_HO161⟩ hb_ hon hoff
                                  refine ⟨_, rfl, fun K hK => ?_⟩
                                  have e37 : a.tmps[37]? = some (.slice Ao52 x6_2.length co52) := by rw [ha]; exact (putSel_off rfl).trans rfl
                                  replace ha := Aside0.mk ha
                                  have HO_6 := Aside0.mk Q_HO_6
                                  have HB := Aside0.mk Q_HB
                                  refine goes_ Try.func13 (by kernel_rfl) rfl #[.slice Ao52 x6_2.length co52] (by first | rfl | (simp [Region.wanted, yielded, e37, *]; done)) rfl rfl (by first | (simp only [List.map_toArray, List.map_cons, List.map_nil, Act.eval, Array.getD_eq_getD_getElem?, Option.getD_some, e37]; done) | (simp only [List.map_toArray, List.map_cons, List.map_nil, Act.eval, Array.getD_eq_getD_getElem?, Option.getD_some, e37]; rfl)) ?_
                                  with_reducible refine (bits_Sum.callsB k2 _ _ x6_2 t140 _ ?side1 ?side2 A18.out).mono ?_
                                  (case side1 => repeat (first | exact (Kd.R_reads' HO_6.out).2.2 | (with_reducible refine Kd.C_alloc ?_ _) | (with_reducible refine Kd.C_drewN ?_ _) | (with_reducible refine Kd.C_drew ?_)))
                                  (case side2 => exact (Kd.R_reads' HO_6.out).2.1)
                                  rintro e w56 ⟨rfl, hb⟩
                                  refine ⟨_, rfl, ?_⟩
                                  have n0_ := Aside0.mk (Kd.R_below (by (with_reducible repeat (first | apply Kd.R_alloc | apply Kd.R_drewN | apply Kd.R_drew)); exact HO_6.out) hb)
                                  have n1_ := Aside0.mk (below_step (by repeat (first | (with_reducible first | exact HB.out | apply below_alloc | apply pw_below_drewN | apply below_drew1) | exact HB.out)) hb)
                                  have z_HO153 := fun (h0_ : b 12 = true) => (show Kd.R (Kd.int .u8) 5 w56 w.heap.size (fun k_ => some k_ ≠ (.slice Ao52 x6_2.length co52 : Value).ownBlock) v152 y151 from by first | exact (Kd.R_below (by (with_reducible repeat (first | apply Kd.R_alloc | apply Kd.R_drewN | apply Kd.R_drew)); exact (Q_HO153 h0_)) hb) | exact Kd.R_mono (Kd.R_below (by (with_reducible repeat (first | apply Kd.R_alloc | apply Kd.R_drewN | apply Kd.R_drew)); exact (Q_HO153 h0_)) hb) (fun _ h_ => by first | trivial | exact h_ | exact h_.1))
                                  clear HO_6
                                  clear HB
                                  have HO_6 := n0_
                                  have HB := n1_
                                  clear n0_ n1_
                                  (try clear hb)
                                  (try clear hb2)
                                  (try clear hk)
                                  (try clear hi)
                                  refine hK.out _ _ ⟨v152, v156, v160, (by rw [ha.out]; exact putSel_upk 0 hb_ rfl rfl rfl), (by (with_reducible repeat (first | apply Kd.R_alloc | apply Kd.R_drewN | apply Kd.R_drew)); first | exact HO_6.out | exact Kd.R_mono HO_6.out (fun _ h_ => (by first | trivial | exact h_ | (repeat' (first | exact True.intro | exact h_.1 | exact h_.2 | exact h_.1.1 | exact h_.1.2 | exact h_.2.1 | exact h_.2.2 | exact h_.1.1.1 | exact h_.1.1.2 | exact h_.1.2.1 | exact h_.1.2.2 | refine ⟨?_, ?_⟩))))), (by repeat (first | (with_reducible first | exact HB.out | apply below_alloc | apply pw_below_drewN | apply below_drew1) | exact HB.out)), z_HO153, fun h0_ => absurd ((hoff 17 (by kernel_rfl)).symm.trans h0_) (by decide), fun h0_ => absurd ((hoff 19 (by kernel_rfl)).symm.trans h0_) (by decide)⟩
                                refine steps_cons ?_ ?_
                                · rintro b a w' ⟨v152, v156, v160, ha, Q_HO_6, Q_HB, Q_HO153, Q_HO157, Q_HO161⟩ hb_ hon hoff
                                  refine ⟨_, rfl, fun K hK => ?_⟩
                                  have e39 : a.tmps[39]? = some (.slice A0 l0.length c0) := by rw [ha]; exact (putSel_off rfl).trans rfl
                                  have e40 : a.tmps[40]? = some (.int .i64 x5_2) := by rw [ha]; exact (putSel_off rfl).trans rfl
                                  replace ha := Aside0.mk ha
                                  have HO_6 := Aside0.mk Q_HO_6
                                  have HB := Aside0.mk Q_HB
                                  refine value_ (w1 := w') (v := .slice A0 y141.length c0) (by first | rfl | (simp [Region.wanted, yielded, e39, e40, *]; done)) rfl ?_ ?_
                                  · go_simp
                                    (try simp only [i64_w])
                                    try rfl
                                  refine hK.out _ _ ⟨v152, v156, v160, (by rw [ha.out]; exact putSel_upk 1 hb_ rfl rfl rfl), Q_HO_6, Q_HB, Q_HO153, fun h0_ => absurd ((hoff 17 (by kernel_rfl)).symm.trans h0_) (by decide), fun h0_ => absurd ((hoff 19 (by kernel_rfl)).symm.trans h0_) (by decide)⟩
                                refine steps_cons ?_ ?_
                                · rintro b a w' ⟨v152, v156, v160, ha, Q_HO_6, Q_HB, Q_HO153, Q_HO157, Q_HO161⟩ hb_ hon hoff
                                  refine ⟨_, rfl, fun K hK => ?_⟩
                                  have e41 : a.tmps[41]? = some (.slice A0 y141.length c0) := by rw [ha]; exact putSel_on (e := (4, 41, .slice A0 y141.length c0)) 1 rfl rfl (hon 4 (by kernel_rfl)) rfl
                                  replace ha := Aside0.mk ha
                                  have HO_6 := Aside0.mk Q_HO_6
                                  have HB := Aside0.mk Q_HB
                                  refine goes_ Try.func13 (by kernel_rfl) rfl #[.slice A0 y141.length c0] (by first | rfl | (simp [Region.wanted, yielded, e41, *]; done)) rfl rfl (by first | (simp only [List.map_toArray, List.map_cons, List.map_nil, Act.eval, Array.getD_eq_getD_getElem?, Option.getD_some, e41]; done) | (simp only [List.map_toArray, List.map_cons, List.map_nil, Act.eval, Array.getD_eq_getD_getElem?, Option.getD_some, e41]; rfl)) ?_
                                  with_reducible refine (bits_Sum.callsB k2 _ _ y141 t145 _ ?side1 ?side2 A21.out).mono ?_
                                  (case side1 => repeat (first | exact (Kd.C_below HR144.out HB.out) | (with_reducible refine Kd.C_alloc ?_ _) | (with_reducible refine Kd.C_drewN ?_ _) | (with_reducible refine Kd.C_drew ?_)))
                                  (case side2 => exact HC144.out)
                                  rintro e w58 ⟨rfl, hb⟩
                                  refine ⟨_, rfl, ?_⟩
                                  have n0_ := Aside0.mk (Kd.R_below (by (with_reducible repeat (first | apply Kd.R_alloc | apply Kd.R_drewN | apply Kd.R_drew)); exact HO_6.out) hb)
                                  have n1_ := Aside0.mk (below_step (by repeat (first | (with_reducible first | exact HB.out | apply below_alloc | apply pw_below_drewN | apply below_drew1) | exact HB.out)) hb)
                                  have z_HO153 := fun (h0_ : b 12 = true) => (show Kd.R (Kd.int .u8) 5 w58 w.heap.size (fun k_ => some k_ ≠ (.slice Ao52 x6_2.length co52 : Value).ownBlock) v152 y151 from by first | exact (Kd.R_below (by (with_reducible repeat (first | apply Kd.R_alloc | apply Kd.R_drewN | apply Kd.R_drew)); exact (Q_HO153 h0_)) hb) | exact Kd.R_mono (Kd.R_below (by (with_reducible repeat (first | apply Kd.R_alloc | apply Kd.R_drewN | apply Kd.R_drew)); exact (Q_HO153 h0_)) hb) (fun _ h_ => by first | trivial | exact h_ | exact h_.1))
                                  clear HO_6
                                  clear HB
                                  have HO_6 := n0_
                                  have HB := n1_
                                  clear n0_ n1_
                                  (try clear hb)
                                  (try clear hb2)
                                  (try clear hk)
                                  (try clear hi)
                                  refine hK.out _ _ ⟨v152, v156, v160, (by rw [ha.out]; exact putSel_upk 2 hb_ rfl rfl rfl), (by (with_reducible repeat (first | apply Kd.R_alloc | apply Kd.R_drewN | apply Kd.R_drew)); first | exact HO_6.out | exact Kd.R_mono HO_6.out (fun _ h_ => (by first | trivial | exact h_ | (repeat' (first | exact True.intro | exact h_.1 | exact h_.2 | exact h_.1.1 | exact h_.1.2 | exact h_.2.1 | exact h_.2.2 | exact h_.1.1.1 | exact h_.1.1.2 | exact h_.1.2.1 | exact h_.1.2.2 | refine ⟨?_, ?_⟩))))), (by repeat (first | (with_reducible first | exact HB.out | apply below_alloc | apply pw_below_drewN | apply below_drew1) | exact HB.out)), z_HO153, fun h0_ => absurd ((hoff 17 (by kernel_rfl)).symm.trans h0_) (by decide), fun h0_ => absurd ((hoff 19 (by kernel_rfl)).symm.trans h0_) (by decide)⟩
                                refine steps_cons ?_ ?_
                                · rintro b a w' ⟨v152, v156, v160, ha, Q_HO_6, Q_HB, Q_HO153, Q_HO157, Q_HO161⟩ hb_ hon hoff
                                  refine ⟨_, rfl, fun K hK => ?_⟩
                                  have e43 : a.tmps[43]? = some (.slice A1 l1.length c1) := by rw [ha]; exact (putSel_off rfl).trans rfl
                                  have e44 : a.tmps[44]? = some (.int .i64 x5_2) := by rw [ha]; exact (putSel_off rfl).trans rfl
                                  replace ha := Aside0.mk ha
                                  have HO_6 := Aside0.mk Q_HO_6
                                  have HB := Aside0.mk Q_HB
                                  refine value_ (w1 := w') (v := .slice A1 y146.length c1) (by first | rfl | (simp [Region.wanted, yielded, e43, e44, *]; done)) rfl ?_ ?_
                                  · go_simp
                                    (try simp only [i64_w])
                                    try rfl
                                  refine hK.out _ _ ⟨v152, v156, v160, (by rw [ha.out]; exact putSel_upk 3 hb_ rfl rfl rfl), Q_HO_6, Q_HB, Q_HO153, fun h0_ => absurd ((hoff 17 (by kernel_rfl)).symm.trans h0_) (by decide), fun h0_ => absurd ((hoff 19 (by kernel_rfl)).symm.trans h0_) (by decide)⟩
                                refine steps_cons ?_ ?_
                                · rintro b a w' ⟨v152, v156, v160, ha, Q_HO_6, Q_HB, Q_HO153, Q_HO157, Q_HO161⟩ hb_ hon hoff
                                  refine ⟨_, rfl, fun K hK => ?_⟩
                                  have e45 : a.tmps[45]? = some (.slice A1 y146.length c1) := by rw [ha]; exact putSel_on (e := (8, 45, .slice A1 y146.length c1)) 3 rfl rfl (hon 8 (by kernel_rfl)) rfl
                                  replace ha := Aside0.mk ha
                                  have HO_6 := Aside0.mk Q_HO_6
                                  have HB := Aside0.mk Q_HB
                                  refine goes_ Try.func13 (by kernel_rfl) rfl #[.slice A1 y146.length c1] (by first | rfl | (simp [Region.wanted, yielded, e45, *]; done)) rfl rfl (by first | (simp only [List.map_toArray, List.map_cons, List.map_nil, Act.eval, Array.getD_eq_getD_getElem?, Option.getD_some, e45]; done) | (simp only [List.map_toArray, List.map_cons, List.map_nil, Act.eval, Array.getD_eq_getD_getElem?, Option.getD_some, e45]; rfl)) ?_
                                  with_reducible refine (bits_Sum.callsB k2 _ _ y146 t150 _ ?side1 ?side2 A24.out).mono ?_
                                  (case side1 => repeat (first | exact (Kd.C_below HR149.out HB.out) | (with_reducible refine Kd.C_alloc ?_ _) | (with_reducible refine Kd.C_drewN ?_ _) | (with_reducible refine Kd.C_drew ?_)))
                                  (case side2 => exact HC149.out)
                                  rintro e w59 ⟨rfl, hb⟩
                                  refine ⟨_, rfl, ?_⟩
                                  have n0_ := Aside0.mk (Kd.R_below (by (with_reducible repeat (first | apply Kd.R_alloc | apply Kd.R_drewN | apply Kd.R_drew)); exact HO_6.out) hb)
                                  have n1_ := Aside0.mk (below_step (by repeat (first | (with_reducible first | exact HB.out | apply below_alloc | apply pw_below_drewN | apply below_drew1) | exact HB.out)) hb)
                                  have z_HO153 := fun (h0_ : b 12 = true) => (show Kd.R (Kd.int .u8) 5 w59 w.heap.size (fun k_ => some k_ ≠ (.slice Ao52 x6_2.length co52 : Value).ownBlock) v152 y151 from by first | exact (Kd.R_below (by (with_reducible repeat (first | apply Kd.R_alloc | apply Kd.R_drewN | apply Kd.R_drew)); exact (Q_HO153 h0_)) hb) | exact Kd.R_mono (Kd.R_below (by (with_reducible repeat (first | apply Kd.R_alloc | apply Kd.R_drewN | apply Kd.R_drew)); exact (Q_HO153 h0_)) hb) (fun _ h_ => by first | trivial | exact h_ | exact h_.1))
                                  clear HO_6
                                  clear HB
                                  have HO_6 := n0_
                                  have HB := n1_
                                  clear n0_ n1_
                                  (try clear hb)
                                  (try clear hb2)
                                  (try clear hk)
                                  (try clear hi)
                                  refine hK.out _ _ ⟨v152, v156, v160, (by rw [ha.out]; exact putSel_upk 4 hb_ rfl rfl rfl), (by (with_reducible repeat (first | apply Kd.R_alloc | apply Kd.R_drewN | apply Kd.R_drew)); first | exact HO_6.out | exact Kd.R_mono HO_6.out (fun _ h_ => (by first | trivial | exact h_ | (repeat' (first | exact True.intro | exact h_.1 | exact h_.2 | exact h_.1.1 | exact h_.1.2 | exact h_.2.1 | exact h_.2.2 | exact h_.1.1.1 | exact h_.1.1.2 | exact h_.1.2.1 | exact h_.1.2.2 | refine ⟨?_, ?_⟩))))), (by repeat (first | (with_reducible first | exact HB.out | apply below_alloc | apply pw_below_drewN | apply below_drew1) | exact HB.out)), z_HO153, fun h0_ => absurd ((hoff 17 (by kernel_rfl)).symm.trans h0_) (by decide), fun h0_ => absurd ((hoff 19 (by kernel_rfl)).symm.trans h0_) (by decide)⟩
                                refine steps_cons ?_ ?_
                                · rintro b a w' ⟨v152, v156, v160, ha, Q_HO_6, Q_HB, Q_HO153, Q_HO157, Q_HO161⟩ hb_ hon hoff
                                  refine ⟨_, rfl, fun K hK => ?_⟩
                                  have e42 : a.tmps[42]? = some (.int .u32 t145) := by rw [ha]; exact putSel_on (e := (5, 42, .int .u32 t145)) 2 rfl rfl (hon 5 (by kernel_rfl)) rfl
                                  have e46 : a.tmps[46]? = some (.int .u32 t150) := by rw [ha]; exact putSel_on (e := (9, 46, .int .u32 t150)) 4 rfl rfl (hon 9 (by kernel_rfl)) rfl
                                  replace ha := Aside0.mk ha
                                  have HO_6 := Aside0.mk Q_HO_6
                                  have HB := Aside0.mk Q_HB
                                  refine value_ (w1 := w') (v := .int .u32 (Go.bits .xor .u32 t145 t150)) (by first | rfl | (simp [Region.wanted, yielded, e42, e46, *]; done)) rfl ?_ ?_
                                  · go_simp
                                    (try simp only [i64_w])
                                    try rfl
                                  refine hK.out _ _ ⟨v152, v156, v160, (by rw [ha.out]; exact putSel_upk 5 hb_ rfl rfl rfl), Q_HO_6, Q_HB, Q_HO153, fun h0_ => absurd ((hoff 17 (by kernel_rfl)).symm.trans h0_) (by decide), fun h0_ => absurd ((hoff 19 (by kernel_rfl)).symm.trans h0_) (by decide)⟩
                                refine steps_cons ?_ ?_
                                · rintro b a w' ⟨v152, v156, v160, ha, Q_HO_6, Q_HB, Q_HO153, Q_HO157, Q_HO161⟩ hb_ hon hoff
                                  refine ⟨_, rfl, fun K hK => ?_⟩
                                  have e48 : a.tmps[48]? = some (.int .i64 x5_2) := by rw [ha]; exact (putSel_off rfl).trans rfl
                                  replace ha := Aside0.mk ha
                                  have HO_6 := Aside0.mk Q_HO_6
                                  have HB := Aside0.mk Q_HB
                                  refine Kd.R_make_step (Kd.int .u8) _ 5 (by first | rfl | (simp [Region.wanted, yielded, e48, *]; done)) (N := 49) rfl 22 _ _ rfl x5_2 (by first | rfl | (simp [Act.eval, *]; done)) (by first | rfl | (simp [Act.eval, *]; done)) Try.underlying22 (.int .u8 0) 1 info5 rfl (by decide) (by omega) 0 (ok := fun _ => True) (okp := fun _ => True) rfl (fun _ hk => hk) trivial (of_decide_eq_true (by first | (with_reducible assumption) | assumption)) (Nat.le_trans (Nat.mul_le_mul_right _ (of_decide_eq_true (by first | (with_reducible assumption) | assumption) : x5_2.toNat ≤ 281474976710656)) (by omega)) (Below.refl _ _) (Nat.le_refl _) ?_
                                  intro v152 w56 ho57 hb hg_ hnew_
                                  clear hg_ hnew_
                                  (first | rw [← Ny151.out] at ho57 | (simp only [Int.reduceToNat] at ho57; rw [← Ny151.out] at ho57))
                                  have n0_ := Aside0.mk (Kd.R_elder' (by (with_reducible repeat (first | apply Kd.R_alloc | apply Kd.R_drewN | apply Kd.R_drew)); exact HO_6.out) (Kd.R_base ho57) hb)
                                  have n1_ := Aside0.mk (Kd.R_lower (Kd.R_new' ho57 (Kd.R_lt (by (with_reducible repeat (first | apply Kd.R_alloc | apply Kd.R_drewN | apply Kd.R_drew)); exact HO_6.out))) (below_size (by repeat (first | (with_reducible first | exact HB.out | apply below_alloc | apply pw_below_drewN | apply below_drew1) | exact HB.out))))
                                  have n2_ := Aside0.mk (below_step (by repeat (first | (with_reducible first | exact HB.out | apply below_alloc | apply pw_below_drewN | apply below_drew1) | exact HB.out)) hb)
                                  clear HO_6
                                  clear HB
                                  have HO_6 := n0_
                                  have HO153 := n1_
                                  have HB := n2_
                                  clear n0_ n1_ n2_
                                  clear hb ho57
                                  refine hK.out _ _ ⟨v152, v156, v160, (by rw [ha.out]; exact putSel_upk 6 hb_ rfl rfl rfl), (by (with_reducible repeat (first | apply Kd.R_alloc | apply Kd.R_drewN | apply Kd.R_drew)); first | exact Kd.R_mono HO_6.out (fun _ hk => hk.2) | exact Kd.R_mono HO_6.out (fun _ h_ => (by first | trivial | exact h_ | (repeat' (first | exact True.intro | exact h_.1 | exact h_.2 | exact h_.1.1 | exact h_.1.2 | exact h_.2.1 | exact h_.2.2 | exact h_.1.1.1 | exact h_.1.1.2 | exact h_.1.2.1 | exact h_.1.2.2 | refine ⟨?_, ?_⟩))))), (by repeat (first | (with_reducible first | exact HB.out | apply below_alloc | apply pw_below_drewN | apply below_drew1) | exact HB.out)), fun _ => (by (with_reducible repeat (first | apply Kd.R_alloc | apply Kd.R_drewN | apply Kd.R_drew)); first | exact Kd.R_mono HO153.out (fun _ hk => hk.2) | exact Kd.R_mono HO153.out (fun _ h_ => (by first | trivial | exact h_ | (repeat' (first | exact True.intro | exact h_.1 | exact h_.2 | exact h_.1.1 | exact h_.1.2 | exact h_.2.1 | exact h_.2.2 | exact h_.1.1.1 | exact h_.1.1.2 | exact h_.1.2.1 | exact h_.1.2.2 | refine ⟨?_, ?_⟩))))), fun h0_ => absurd ((hoff 17 (by kernel_rfl)).symm.trans h0_) (by decide), fun h0_ => absurd ((hoff 19 (by kernel_rfl)).symm.trans h0_) (by decide)⟩
                                refine steps_cons ?_ ?_
                                · rintro b a w' ⟨v152, v156, v160, ha, Q_HO_6, Q_HB, Q_HO153, Q_HO157, Q_HO161⟩ hb_ hon hoff
                                  refine ⟨_, rfl, fun K hK => ?_⟩
                                  have e49 : a.tmps[49]? = some (v152) := by rw [ha]; exact putSel_on (e := (12, 49, v152)) 6 rfl rfl (hon 12 (by kernel_rfl)) rfl
                                  replace ha := Aside0.mk ha
                                  have HO_6 := Aside0.mk Q_HO_6
                                  have HB := Aside0.mk Q_HB
                                  have HO153 := Aside0.mk (Q_HO153 (hon 12 (by kernel_rfl)))
                                  obtain ⟨Ao62, co62, eo62⟩ := Kd.R_slice HO153.out
                                  (first | subst eo62 | (injection eo62 with f1_ f2_ f3_; have f4_ := f1_.symm; have f5_ := f3_.symm; clear f1_ f2_ f3_; subst f4_; subst f5_))
                                  refine goes_ Try.func13 (by kernel_rfl) rfl #[.slice Ao62 y151.length co62] (by first | rfl | (simp [Region.wanted, yielded, e49, *]; done)) rfl rfl (by first | (simp only [List.map_toArray, List.map_cons, List.map_nil, Act.eval, Array.getD_eq_getD_getElem?, Option.getD_some, e49]; done) | (simp only [List.map_toArray, List.map_cons, List.map_nil, Act.eval, Array.getD_eq_getD_getElem?, Option.getD_some, e49]; rfl)) ?_
                                  with_reducible refine (bits_Sum.callsB k2 _ _ y151 t154 _ ?side1 ?side2 A26.out).mono ?_
                                  (case side1 => repeat (first | exact (Kd.R_reads' HO153.out).2.2 | (with_reducible refine Kd.C_alloc ?_ _) | (with_reducible refine Kd.C_drewN ?_ _) | (with_reducible refine Kd.C_drew ?_)))
                                  (case side2 => exact (Kd.R_reads' HO153.out).2.1)
                                  rintro e w63 ⟨rfl, hb⟩
                                  refine ⟨_, rfl, ?_⟩
                                  have n0_ := Aside0.mk (Kd.R_below (by (with_reducible repeat (first | apply Kd.R_alloc | apply Kd.R_drewN | apply Kd.R_drew)); exact HO_6.out) hb)
                                  have n1_ := Aside0.mk (Kd.R_below (by (with_reducible repeat (first | apply Kd.R_alloc | apply Kd.R_drewN | apply Kd.R_drew)); exact HO153.out) hb)
                                  have n2_ := Aside0.mk (below_step (by repeat (first | (with_reducible first | exact HB.out | apply below_alloc | apply pw_below_drewN | apply below_drew1) | exact HB.out)) hb)
                                  clear HO_6
                                  clear HO153
                                  clear HB
                                  have HO_6 := n0_
                                  have HO153 := n1_
                                  have HB := n2_
                                  clear n0_ n1_ n2_
                                  (try clear hb)
                                  (try clear hb2)
                                  (try clear hk)
                                  (try clear hi)
                                  refine hK.out _ _ ⟨.slice Ao62 y151.length co62, v156, v160, (by rw [ha.out]; exact putSel_upk 7 hb_ rfl rfl rfl), (by (with_reducible repeat (first | apply Kd.R_alloc | apply Kd.R_drewN | apply Kd.R_drew)); first | exact HO_6.out | exact Kd.R_mono HO_6.out (fun _ h_ => (by first | trivial | exact h_ | (repeat' (first | exact True.intro | exact h_.1 | exact h_.2 | exact h_.1.1 | exact h_.1.2 | exact h_.2.1 | exact h_.2.2 | exact h_.1.1.1 | exact h_.1.1.2 | exact h_.1.2.1 | exact h_.1.2.2 | refine ⟨?_, ?_⟩))))), (by repeat (first | (with_reducible first | exact HB.out | apply below_alloc | apply pw_below_drewN | apply below_drew1) | exact HB.out)), fun _ => (by (with_reducible repeat (first | apply Kd.R_alloc | apply Kd.R_drewN | apply Kd.R_drew)); first | exact HO153.out | exact Kd.R_mono HO153.out (fun _ h_ => (by first | trivial | exact h_ | (repeat' (first | exact True.intro | exact h_.1 | exact h_.2 | exact h_.1.1 | exact h_.1.2 | exact h_.2.1 | exact h_.2.2 | exact h_.1.1.1 | exact h_.1.1.2 | exact h_.1.2.1 | exact h_.1.2.2 | refine ⟨?_, ?_⟩))))), fun h0_ => absurd ((hoff 17 (by kernel_rfl)).symm.trans h0_) (by decide), fun h0_ => absurd ((hoff 19 (by kernel_rfl)).symm.trans h0_) (by decide)⟩
                                refine steps_cons ?_ ?_
                                · rintro b a w' ⟨v152, v156, v160, ha, Q_HO_6, Q_HB, Q_HO153, Q_HO157, Q_HO161⟩ hb_ hon hoff
                                  refine ⟨_, rfl, fun K hK => ?_⟩
                                  have e47 : a.tmps[47]? = some (.int .u32 (Go.bits .xor .u32 t145 t150)) := by rw [ha]; exact putSel_on (e := (10, 47, .int .u32 (Go.bits .xor .u32 t145 t150))) 5 rfl rfl (hon 10 (by kernel_rfl)) rfl
                                  have e50 : a.tmps[50]? = some (.int .u32 t154) := by rw [ha]; exact putSel_on (e := (13, 50, .int .u32 t154)) 7 rfl rfl (hon 13 (by kernel_rfl)) rfl
                                  replace ha := Aside0.mk ha
                                  have HO_6 := Aside0.mk Q_HO_6
                                  have HB := Aside0.mk Q_HB
                                  have HO153 := Aside0.mk (Q_HO153 (hon 12 (by kernel_rfl)))
                                  refine value_ (w1 := w') (v := .int .u32 (Go.bits .xor .u32 (Go.bits .xor .u32 t145 t150) t154)) (by first | rfl | (simp [Region.wanted, yielded, e47, e50, *]; done)) rfl ?_ ?_
                                  · go_simp
                                    (try simp only [i64_w])
                                    try rfl
                                  refine hK.out _ _ ⟨v152, v156, v160, (by rw [ha.out]; exact putSel_upk 8 hb_ rfl rfl rfl), Q_HO_6, Q_HB, Q_HO153, fun h0_ => absurd ((hoff 17 (by kernel_rfl)).symm.trans h0_) (by decide), fun h0_ => absurd ((hoff 19 (by kernel_rfl)).symm.trans h0_) (by decide)⟩
                                refine steps_cons ?_ ?_
                                · rintro b a w' ⟨v152, v156, v160, ha, Q_HO_6, Q_HB, Q_HO153, Q_HO157, Q_HO161⟩ hb_ hon hoff
                                  refine ⟨_, rfl, fun K hK => ?_⟩
                                  have e38 : a.tmps[38]? = some (.int .u32 t140) := by rw [ha]; exact putSel_on (e := (1, 38, .int .u32 t140)) 0 rfl rfl (hon 1 (by kernel_rfl)) rfl
                                  have e51 : a.tmps[51]? = some (.int .u32 (Go.bits .xor .u32 (Go.bits .xor .u32 t145 t150) t154)) := by rw [ha]; exact putSel_on (e := (14, 51, .int .u32 (Go.bits .xor .u32 (Go.bits .xor .u32 t145 t150) t154))) 8 rfl rfl (hon 14 (by kernel_rfl)) rfl
                                  replace ha := Aside0.mk ha
                                  have HO_6 := Aside0.mk Q_HO_6
                                  have HB := Aside0.mk Q_HB
                                  have HO153 := Aside0.mk (Q_HO153 (hon 12 (by kernel_rfl)))
                                  refine value_ (w1 := w') (v := .bool (t140 == (Go.bits .xor .u32 (Go.bits .xor .u32 t145 t150) t154))) (by first | rfl | (simp [Region.wanted, yielded, e38, e51, *]; done)) rfl ?_ ?_
                                  · go_simp
                                    (try simp only [i64_w])
                                    try rfl
                                  refine hK.out _ _ ⟨v152, v156, v160, (by rw [ha.out]; exact putSel_upk 9 hb_ rfl rfl rfl), Q_HO_6, Q_HB, Q_HO153, fun h0_ => absurd ((hoff 17 (by kernel_rfl)).symm.trans h0_) (by decide), fun h0_ => absurd ((hoff 19 (by kernel_rfl)).symm.trans h0_) (by decide)⟩
                                refine steps_cons ?_ ?_
                                · rintro b a w' ⟨v152, v156, v160, ha, Q_HO_6, Q_HB, Q_HO153, Q_HO157, Q_HO161⟩ hb_ hon hoff
                                  refine ⟨_, rfl, fun K hK => ?_⟩
                                  have e52 : a.tmps[52]? = some (.bool (t140 == (Go.bits .xor .u32 (Go.bits .xor .u32 t145 t150) t154))) := by rw [ha]; exact putSel_on (e := (15, 52, .bool (t140 == (Go.bits .xor .u32 (Go.bits .xor .u32 t145 t150) t154)))) 9 rfl rfl (hon 15 (by kernel_rfl)) rfl
                                  replace ha := Aside0.mk ha
                                  have HO_6 := Aside0.mk Q_HO_6
                                  have HB := Aside0.mk Q_HB
                                  have HO153 := Aside0.mk (Q_HO153 (hon 12 (by kernel_rfl)))
                                  refine value_ (w1 := w') (v := .bool (t140 == (Go.bits .xor .u32 (Go.bits .xor .u32 t145 t150) t154))) (by first | rfl | (simp [Region.wanted, yielded, e52, *]; done)) rfl ?_ ?_
                                  · go_simp
                                    (try simp only [i64_w])
                                    try rfl
                                  refine hK.out _ _ ⟨v152, v156, v160, (by rw [ha.out]; exact putSel_upk 10 hb_ rfl rfl rfl), Q_HO_6, Q_HB, Q_HO153, fun h0_ => absurd ((hoff 17 (by kernel_rfl)).symm.trans h0_) (by decide), fun h0_ => absurd ((hoff 19 (by kernel_rfl)).symm.trans h0_) (by decide)⟩
                                refine steps_cons ?_ ?_
                                · rintro b a w' ⟨v152, v156, v160, ha, Q_HO_6, Q_HB, Q_HO153, Q_HO157, Q_HO161⟩ hb_ hon hoff
                                  refine ⟨_, rfl, fun K hK => ?_⟩
                                  have e53 : a.tmps[53]? = some (.bool (t140 == (Go.bits .xor .u32 (Go.bits .xor .u32 t145 t150) t154))) := by rw [ha]; exact putSel_on (e := (16, 53, .bool (t140 == (Go.bits .xor .u32 (Go.bits .xor .u32 t145 t150) t154)))) 10 rfl rfl (hon 16 (by kernel_rfl)) rfl
                                  replace ha := Aside0.mk ha
                                  have HO_6 := Aside0.mk Q_HO_6
                                  have HB := Aside0.mk Q_HB
                                  have HO153 := Aside0.mk (Q_HO153 (hon 12 (by kernel_rfl)))
                                  refine Kd.R_lit_step (Kd.int .u8) _ 5 ?hg (N := 54) ?hd (xs := ([1] : List Int)) (inner := [.int .u8 1]) (ok := fun _ => True) (okp := fun _ => True) ?hr ?hp (fun _ hk => hk) trivial (Below.refl _ _) (Nat.le_refl _) (by simp) ?_; (case hd => rfl); (case hg => first | rfl | (simp [Region.wanted, yielded, e53, *]; done)); (case hr => first | (go_simp; done) | (go_simp; rfl)); (case hp => exact (Reps.one (show Kd.M (Kd.int .u8) _ _ _ 1 [.int .u8 1] from rfl) (Reps.none _ _)))
                                  intro v156 w64 ho65 hb hg_ hnew_
                                  clear hg_ hnew_
                                  (first | rw [← Ny155.out] at ho65 | (simp only [Int.reduceToNat] at ho65; rw [← Ny155.out] at ho65))
                                  have n0_ := Aside0.mk (Kd.R_elder' (by (with_reducible repeat (first | apply Kd.R_alloc | apply Kd.R_drewN | apply Kd.R_drew)); exact HO_6.out) (Kd.R_base ho65) hb)
                                  have n1_ := Aside0.mk (Kd.R_elder' (by (with_reducible repeat (first | apply Kd.R_alloc | apply Kd.R_drewN | apply Kd.R_drew)); exact HO153.out) (Kd.R_base ho65) hb)
                                  have n2_ := Aside0.mk (Kd.R_lower (Kd.R_new' (Kd.R_new' ho65 (Kd.R_lt (by (with_reducible repeat (first | apply Kd.R_alloc | apply Kd.R_drewN | apply Kd.R_drew)); exact HO_6.out))) (Kd.R_lt (by (with_reducible repeat (first | apply Kd.R_alloc | apply Kd.R_drewN | apply Kd.R_drew)); exact HO153.out))) (below_size (by repeat (first | (with_reducible first | exact HB.out | apply below_alloc | apply pw_below_drewN | apply below_drew1) | exact HB.out))))
                                  have n3_ := Aside0.mk (below_step (by repeat (first | (with_reducible first | exact HB.out | apply below_alloc | apply pw_below_drewN | apply below_drew1) | exact HB.out)) hb)
                                  have z_HO161 := fun (h0_ : b 19 = true) => (show Kd.R (Kd.int .u8) 5 w64 w.heap.size (fun k_ => some k_ ≠ (.slice Ao52 x6_2.length co52 : Value).ownBlock) v160 y159 from by first | exact (Kd.R_elder' (by (with_reducible repeat (first | apply Kd.R_alloc | apply Kd.R_drewN | apply Kd.R_drew)); exact (Q_HO161 h0_)) (Kd.R_base ho65) hb) | exact Kd.R_mono (Kd.R_elder' (by (with_reducible repeat (first | apply Kd.R_alloc | apply Kd.R_drewN | apply Kd.R_drew)); exact (Q_HO161 h0_)) (Kd.R_base ho65) hb) (fun _ h_ => by first | trivial | exact h_ | exact h_.1))
                                  clear HO_6
                                  clear HO153
                                  clear HB
                                  have HO_6 := n0_
                                  have HO153 := n1_
                                  have HO157 := n2_
                                  have HB := n3_
                                  clear n0_ n1_ n2_ n3_
                                  clear hb ho65
                                  refine hK.out _ _ ⟨v152, v156, v160, (by rw [ha.out]; exact putSel_upk 11 hb_ rfl rfl rfl), (by (with_reducible repeat (first | apply Kd.R_alloc | apply Kd.R_drewN | apply Kd.R_drew)); first | exact HO_6.out | exact Kd.R_mono HO_6.out (fun _ h_ => (by first | trivial | exact h_ | (repeat' (first | exact True.intro | exact h_.1 | exact h_.2 | exact h_.1.1 | exact h_.1.2 | exact h_.2.1 | exact h_.2.2 | exact h_.1.1.1 | exact h_.1.1.2 | exact h_.1.2.1 | exact h_.1.2.2 | refine ⟨?_, ?_⟩))))), (by repeat (first | (with_reducible first | exact HB.out | apply below_alloc | apply pw_below_drewN | apply below_drew1) | exact HB.out)), fun _ => (by (with_reducible repeat (first | apply Kd.R_alloc | apply Kd.R_drewN | apply Kd.R_drew)); first | exact Kd.R_mono HO153.out (fun _ hk => ⟨hk.2, hk.1⟩) | exact Kd.R_mono HO153.out (fun _ h_ => (by first | trivial | exact h_ | (repeat' (first | exact True.intro | exact h_.1 | exact h_.2 | exact h_.1.1 | exact h_.1.2 | exact h_.2.1 | exact h_.2.2 | exact h_.1.1.1 | exact h_.1.1.2 | exact h_.1.2.1 | exact h_.1.2.2 | refine ⟨?_, ?_⟩))))), fun _ => (by (with_reducible repeat (first | apply Kd.R_alloc | apply Kd.R_drewN | apply Kd.R_drew)); first | exact Kd.R_mono HO157.out (fun _ hk => ⟨hk.2, hk.1.2⟩) | exact Kd.R_mono HO157.out (fun _ h_ => (by first | trivial | exact h_ | (repeat' (first | exact True.intro | exact h_.1 | exact h_.2 | exact h_.1.1 | exact h_.1.2 | exact h_.2.1 | exact h_.2.2 | exact h_.1.1.1 | exact h_.1.1.2 | exact h_.1.2.1 | exact h_.1.2.2 | refine ⟨?_, ?_⟩))))), z_HO161⟩
                                refine steps_cons ?_ ?_
                                · rintro b a w' ⟨v152, v156, v160, ha, Q_HO_6, Q_HB, Q_HO153, Q_HO157, Q_HO161⟩ hb_ hon hoff
                                  refine ⟨_, rfl, fun K hK => ?_⟩
                                  have e54 : a.tmps[54]? = some (v156) := by rw [ha]; exact putSel_on (e := (17, 54, v156)) 11 rfl rfl (hon 17 (by kernel_rfl)) rfl
                                  have e53 : a.tmps[53]? = some (.bool (t140 == (Go.bits .xor .u32 (Go.bits .xor .u32 t145 t150) t154))) := by rw [ha]; exact putSel_on (e := (16, 53, .bool (t140 == (Go.bits .xor .u32 (Go.bits .xor .u32 t145 t150) t154)))) 10 rfl rfl (hon 16 (by kernel_rfl)) rfl
                                  replace ha := Aside0.mk ha
                                  have HO_6 := Aside0.mk Q_HO_6
                                  have HB := Aside0.mk Q_HB
                                  have HO153 := Aside0.mk (Q_HO153 (hon 12 (by kernel_rfl)))
                                  have HO157 := Aside0.mk (Q_HO157 (hon 17 (by kernel_rfl)))
                                  obtain ⟨Ao66, co66, eo66⟩ := Kd.R_slice HO157.out
                                  (first | subst eo66 | (injection eo66 with f1_ f2_ f3_; have f4_ := f1_.symm; have f5_ := f3_.symm; clear f1_ f2_ f3_; subst f4_; subst f5_))
                                  refine goes_ Try.func13 (by kernel_rfl) rfl #[.slice Ao66 y155.length co66] (by first | rfl | (simp [Region.wanted, yielded, e54, e53, *]; done)) rfl rfl (by first | (simp only [List.map_toArray, List.map_cons, List.map_nil, Act.eval, Array.getD_eq_getD_getElem?, Option.getD_some, e54, e53]; done) | (simp only [List.map_toArray, List.map_cons, List.map_nil, Act.eval, Array.getD_eq_getD_getElem?, Option.getD_some, e54, e53]; rfl)) ?_
                                  with_reducible refine (bits_Sum.callsB k2 _ _ y155 t158 _ ?side1 ?side2 A28.out).mono ?_
                                  (case side1 => repeat (first | exact (Kd.R_reads' HO157.out).2.2 | (with_reducible refine Kd.C_alloc ?_ _) | (with_reducible refine Kd.C_drewN ?_ _) | (with_reducible refine Kd.C_drew ?_)))
                                  (case side2 => exact (Kd.R_reads' HO157.out).2.1)
                                  rintro e w67 ⟨rfl, hb⟩
                                  refine ⟨_, rfl, ?_⟩
                                  have n0_ := Aside0.mk (Kd.R_below (by (with_reducible repeat (first | apply Kd.R_alloc | apply Kd.R_drewN | apply Kd.R_drew)); exact HO_6.out) hb)
                                  have n1_ := Aside0.mk (Kd.R_below (by (with_reducible repeat (first | apply Kd.R_alloc | apply Kd.R_drewN | apply Kd.R_drew)); exact HO153.out) hb)
                                  have n2_ := Aside0.mk (Kd.R_below (by (with_reducible repeat (first | apply Kd.R_alloc | apply Kd.R_drewN | apply Kd.R_drew)); exact HO157.out) hb)
                                  have n3_ := Aside0.mk (below_step (by repeat (first | (with_reducible first | exact HB.out | apply below_alloc | apply pw_below_drewN | apply below_drew1) | exact HB.out)) hb)
                                  have z_HO161 := fun (h0_ : b 19 = true) => (show Kd.R (Kd.int .u8) 5 w67 w.heap.size (fun k_ => some k_ ≠ (.slice Ao52 x6_2.length co52 : Value).ownBlock) v160 y159 from by first | exact (Kd.R_below (by (with_reducible repeat (first | apply Kd.R_alloc | apply Kd.R_drewN | apply Kd.R_drew)); exact (Q_HO161 h0_)) hb) | exact Kd.R_mono (Kd.R_below (by (with_reducible repeat (first | apply Kd.R_alloc | apply Kd.R_drewN | apply Kd.R_drew)); exact (Q_HO161 h0_)) hb) (fun _ h_ => by first | trivial | exact h_ | exact h_.1))
                                  clear HO_6
                                  clear HO153
                                  clear HO157
                                  clear HB
                                  have HO_6 := n0_
                                  have HO153 := n1_
                                  have HO157 := n2_
                                  have HB := n3_
                                  clear n0_ n1_ n2_ n3_
                                  (try clear hb)
                                  (try clear hb2)
                                  (try clear hk)
                                  (try clear hi)
                                  refine hK.out _ _ ⟨v152, .slice Ao66 y155.length co66, v160, (by rw [ha.out]; exact putSel_upk 12 hb_ rfl rfl rfl), (by (with_reducible repeat (first | apply Kd.R_alloc | apply Kd.R_drewN | apply Kd.R_drew)); first | exact HO_6.out | exact Kd.R_mono HO_6.out (fun _ h_ => (by first | trivial | exact h_ | (repeat' (first | exact True.intro | exact h_.1 | exact h_.2 | exact h_.1.1 | exact h_.1.2 | exact h_.2.1 | exact h_.2.2 | exact h_.1.1.1 | exact h_.1.1.2 | exact h_.1.2.1 | exact h_.1.2.2 | refine ⟨?_, ?_⟩))))), (by repeat (first | (with_reducible first | exact HB.out | apply below_alloc | apply pw_below_drewN | apply below_drew1) | exact HB.out)), fun _ => (by (with_reducible repeat (first | apply Kd.R_alloc | apply Kd.R_drewN | apply Kd.R_drew)); first | exact HO153.out | exact Kd.R_mono HO153.out (fun _ h_ => (by first | trivial | exact h_ | (repeat' (first | exact True.intro | exact h_.1 | exact h_.2 | exact h_.1.1 | exact h_.1.2 | exact h_.2.1 | exact h_.2.2 | exact h_.1.1.1 | exact h_.1.1.2 | exact h_.1.2.1 | exact h_.1.2.2 | refine ⟨?_, ?_⟩))))), fun _ => (by (with_reducible repeat (first | apply Kd.R_alloc | apply Kd.R_drewN | apply Kd.R_drew)); first | exact HO157.out | exact Kd.R_mono HO157.out (fun _ h_ => (by first | trivial | exact h_ | (repeat' (first | exact True.intro | exact h_.1 | exact h_.2 | exact h_.1.1 | exact h_.1.2 | exact h_.2.1 | exact h_.2.2 | exact h_.1.1.1 | exact h_.1.1.2 | exact h_.1.2.1 | exact h_.1.2.2 | refine ⟨?_, ?_⟩))))), z_HO161⟩
                                refine steps_cons ?_ ?_
                                · rintro b a w' ⟨v152, v156, v160, ha, Q_HO_6, Q_HB, Q_HO153, Q_HO157, Q_HO161⟩ hb_ hon hoff
                                  refine ⟨_, rfl, fun K hK => ?_⟩
                                  have e53 : a.tmps[53]? = some (.bool (t140 == (Go.bits .xor .u32 (Go.bits .xor .u32 t145 t150) t154))) := by rw [ha]; exact putSel_on (e := (16, 53, .bool (t140 == (Go.bits .xor .u32 (Go.bits .xor .u32 t145 t150) t154)))) 10 rfl rfl (hon 16 (by kernel_rfl)) rfl
                                  replace ha := Aside0.mk ha
                                  have HO_6 := Aside0.mk Q_HO_6
                                  have HB := Aside0.mk Q_HB
                                  have HO153 := Aside0.mk (Q_HO153 (hon 12 (by kernel_rfl)))
                                  refine Kd.R_lit_step (Kd.int .u8) _ 5 ?hg (N := 56) ?hd (xs := ([2] : List Int)) (inner := [.int .u8 2]) (ok := fun _ => True) (okp := fun _ => True) ?hr ?hp (fun _ hk => hk) trivial (Below.refl _ _) (Nat.le_refl _) (by simp) ?_; (case hd => rfl); (case hg => first | rfl | (simp [Region.wanted, yielded, e53, *]; done)); (case hr => first | (go_simp; done) | (go_simp; rfl)); (case hp => exact (Reps.one (show Kd.M (Kd.int .u8) _ _ _ 2 [.int .u8 2] from rfl) (Reps.none _ _)))
                                  intro v160 w64 ho65 hb hg_ hnew_
                                  clear hg_ hnew_
                                  (first | rw [← Ny159.out] at ho65 | (simp only [Int.reduceToNat] at ho65; rw [← Ny159.out] at ho65))
                                  have n0_ := Aside0.mk (Kd.R_elder' (by (with_reducible repeat (first | apply Kd.R_alloc | apply Kd.R_drewN | apply Kd.R_drew)); exact HO_6.out) (Kd.R_base ho65) hb)
                                  have n1_ := Aside0.mk (Kd.R_elder' (by (with_reducible repeat (first | apply Kd.R_alloc | apply Kd.R_drewN | apply Kd.R_drew)); exact HO153.out) (Kd.R_base ho65) hb)
                                  have n2_ := Aside0.mk (Kd.R_lower (Kd.R_new' (Kd.R_new' ho65 (Kd.R_lt (by (with_reducible repeat (first | apply Kd.R_alloc | apply Kd.R_drewN | apply Kd.R_drew)); exact HO_6.out))) (Kd.R_lt (by (with_reducible repeat (first | apply Kd.R_alloc | apply Kd.R_drewN | apply Kd.R_drew)); exact HO153.out))) (below_size (by repeat (first | (with_reducible first | exact HB.out | apply below_alloc | apply pw_below_drewN | apply below_drew1) | exact HB.out))))
                                  have n3_ := Aside0.mk (below_step (by repeat (first | (with_reducible first | exact HB.out | apply below_alloc | apply pw_below_drewN | apply below_drew1) | exact HB.out)) hb)
                                  have z_HO157 := fun (h0_ : b 17 = true) => (show Kd.R (Kd.int .u8) 5 w64 w.heap.size (fun k_ => some k_ ≠ (.slice Ao52 x6_2.length co52 : Value).ownBlock) v156 y155 from by first | exact (Kd.R_elder' (by (with_reducible repeat (first | apply Kd.R_alloc | apply Kd.R_drewN | apply Kd.R_drew)); exact (Q_HO157 h0_)) (Kd.R_base ho65) hb) | exact Kd.R_mono (Kd.R_elder' (by (with_reducible repeat (first | apply Kd.R_alloc | apply Kd.R_drewN | apply Kd.R_drew)); exact (Q_HO157 h0_)) (Kd.R_base ho65) hb) (fun _ h_ => by first | trivial | exact h_ | exact h_.1))
                                  clear HO_6
                                  clear HO153
                                  clear HB
                                  have HO_6 := n0_
                                  have HO153 := n1_
                                  have HO161 := n2_
                                  have HB := n3_
                                  clear n0_ n1_ n2_ n3_
                                  clear hb ho65
                                  refine hK.out _ _ ⟨v152, v156, v160, (by rw [ha.out]; exact putSel_upk 13 hb_ rfl rfl rfl), (by (with_reducible repeat (first | apply Kd.R_alloc | apply Kd.R_drewN | apply Kd.R_drew)); first | exact HO_6.out | exact Kd.R_mono HO_6.out (fun _ h_ => (by first | trivial | exact h_ | (repeat' (first | exact True.intro | exact h_.1 | exact h_.2 | exact h_.1.1 | exact h_.1.2 | exact h_.2.1 | exact h_.2.2 | exact h_.1.1.1 | exact h_.1.1.2 | exact h_.1.2.1 | exact h_.1.2.2 | refine ⟨?_, ?_⟩))))), (by repeat (first | (with_reducible first | exact HB.out | apply below_alloc | apply pw_below_drewN | apply below_drew1) | exact HB.out)), fun _ => (by (with_reducible repeat (first | apply Kd.R_alloc | apply Kd.R_drewN | apply Kd.R_drew)); first | exact Kd.R_mono HO153.out (fun _ hk => ⟨hk.2, hk.1⟩) | exact Kd.R_mono HO153.out (fun _ h_ => (by first | trivial | exact h_ | (repeat' (first | exact True.intro | exact h_.1 | exact h_.2 | exact h_.1.1 | exact h_.1.2 | exact h_.2.1 | exact h_.2.2 | exact h_.1.1.1 | exact h_.1.1.2 | exact h_.1.2.1 | exact h_.1.2.2 | refine ⟨?_, ?_⟩))))), z_HO157, fun _ => (by (with_reducible repeat (first | apply Kd.R_alloc | apply Kd.R_drewN | apply Kd.R_drew)); first | exact Kd.R_mono HO161.out (fun _ hk => ⟨hk.2, hk.1.2⟩) | exact Kd.R_mono HO161.out (fun _ h_ => (by first | trivial | exact h_ | (repeat' (first | exact True.intro | exact h_.1 | exact h_.2 | exact h_.1.1 | exact h_.1.2 | exact h_.2.1 | exact h_.2.2 | exact h_.1.1.1 | exact h_.1.1.2 | exact h_.1.2.1 | exact h_.1.2.2 | refine ⟨?_, ?_⟩)))))⟩
                                refine steps_cons ?_ ?_
                                · rintro b a w' ⟨v152, v156, v160, ha, Q_HO_6, Q_HB, Q_HO153, Q_HO157, Q_HO161⟩ hb_ hon hoff
                                  refine ⟨_, rfl, fun K hK => ?_⟩
                                  have e56 : a.tmps[56]? = some (v160) := by rw [ha]; exact putSel_on (e := (19, 56, v160)) 13 rfl rfl (hon 19 (by kernel_rfl)) rfl
                                  have e53 : a.tmps[53]? = some (.bool (t140 == (Go.bits .xor .u32 (Go.bits .xor .u32 t145 t150) t154))) := by rw [ha]; exact putSel_on (e := (16, 53, .bool (t140 == (Go.bits .xor .u32 (Go.bits .xor .u32 t145 t150) t154)))) 10 rfl rfl (hon 16 (by kernel_rfl)) rfl
                                  replace ha := Aside0.mk ha
                                  have HO_6 := Aside0.mk Q_HO_6
                                  have HB := Aside0.mk Q_HB
                                  have HO153 := Aside0.mk (Q_HO153 (hon 12 (by kernel_rfl)))
                                  have HO157 := Aside0.mk (Q_HO157 (hon 17 (by kernel_rfl)))
                                  have HO161 := Aside0.mk (Q_HO161 (hon 19 (by kernel_rfl)))
                                  obtain ⟨Ao70, co70, eo70⟩ := Kd.R_slice HO161.out
                                  (first | subst eo70 | (injection eo70 with f1_ f2_ f3_; have f4_ := f1_.symm; have f5_ := f3_.symm; clear f1_ f2_ f3_; subst f4_; subst f5_))
                                  refine goes_ Try.func13 (by kernel_rfl) rfl #[.slice Ao70 y159.length co70] (by first | rfl | (simp [Region.wanted, yielded, e56, e53, *]; done)) rfl rfl (by first | (simp only [List.map_toArray, List.map_cons, List.map_nil, Act.eval, Array.getD_eq_getD_getElem?, Option.getD_some, e56, e53]; done) | (simp only [List.map_toArray, List.map_cons, List.map_nil, Act.eval, Array.getD_eq_getD_getElem?, Option.getD_some, e56, e53]; rfl)) ?_
                                  with_reducible refine (bits_Sum.callsB k2 _ _ y159 t162 _ ?side1 ?side2 A29.out).mono ?_
                                  (case side1 => repeat (first | exact (Kd.R_reads' HO161.out).2.2 | (with_reducible refine Kd.C_alloc ?_ _) | (with_reducible refine Kd.C_drewN ?_ _) | (with_reducible refine Kd.C_drew ?_)))
                                  (case side2 => exact (Kd.R_reads' HO161.out).2.1)
                                  rintro e w71 ⟨rfl, hb⟩
                                  refine ⟨_, rfl, ?_⟩
                                  have n0_ := Aside0.mk (Kd.R_below (by (with_reducible repeat (first | apply Kd.R_alloc | apply Kd.R_drewN | apply Kd.R_drew)); exact HO_6.out) hb)
                                  have n1_ := Aside0.mk (Kd.R_below (by (with_reducible repeat (first | apply Kd.R_alloc | apply Kd.R_drewN | apply Kd.R_drew)); exact HO153.out) hb)
                                  have n2_ := Aside0.mk (Kd.R_below (by (with_reducible repeat (first | apply Kd.R_alloc | apply Kd.R_drewN | apply Kd.R_drew)); exact HO157.out) hb)
                                  have n3_ := Aside0.mk (Kd.R_below (by (with_reducible repeat (first | apply Kd.R_alloc | apply Kd.R_drewN | apply Kd.R_drew)); exact HO161.out) hb)
                                  have n4_ := Aside0.mk (below_step (by repeat (first | (with_reducible first | exact HB.out | apply below_alloc | apply pw_below_drewN | apply below_drew1) | exact HB.out)) hb)
                                  clear HO_6
                                  clear HO153
                                  clear HO157
                                  clear HO161
                                  clear HB
                                  have HO_6 := n0_
                                  have HO153 := n1_
                                  have HO157 := n2_
                                  have HO161 := n3_
                                  have HB := n4_
                                  clear n0_ n1_ n2_ n3_ n4_
                                  (try clear hb)
                                  (try clear hb2)
                                  (try clear hk)
                                  (try clear hi)
                                  refine hK.out _ _ ⟨v152, v156, .slice Ao70 y159.length co70, (by rw [ha.out]; exact putSel_upk 14 hb_ rfl rfl rfl), (by (with_reducible repeat (first | apply Kd.R_alloc | apply Kd.R_drewN | apply Kd.R_drew)); first | exact HO_6.out | exact Kd.R_mono HO_6.out (fun _ h_ => (by first | trivial | exact h_ | (repeat' (first | exact True.intro | exact h_.1 | exact h_.2 | exact h_.1.1 | exact h_.1.2 | exact h_.2.1 | exact h_.2.2 | exact h_.1.1.1 | exact h_.1.1.2 | exact h_.1.2.1 | exact h_.1.2.2 | refine ⟨?_, ?_⟩))))), (by repeat (first | (with_reducible first | exact HB.out | apply below_alloc | apply pw_below_drewN | apply below_drew1) | exact HB.out)), fun _ => (by (with_reducible repeat (first | apply Kd.R_alloc | apply Kd.R_drewN | apply Kd.R_drew)); first | exact HO153.out | exact Kd.R_mono HO153.out (fun _ h_ => (by first | trivial | exact h_ | (repeat' (first | exact True.intro | exact h_.1 | exact h_.2 | exact h_.1.1 | exact h_.1.2 | exact h_.2.1 | exact h_.2.2 | exact h_.1.1.1 | exact h_.1.1.2 | exact h_.1.2.1 | exact h_.1.2.2 | refine ⟨?_, ?_⟩))))), fun _ => (by (with_reducible repeat (first | apply Kd.R_alloc | apply Kd.R_drewN | apply Kd.R_drew)); first | exact HO157.out | exact Kd.R_mono HO157.out (fun _ h_ => (by first | trivial | exact h_ | (repeat' (first | exact True.intro | exact h_.1 | exact h_.2 | exact h_.1.1 | exact h_.1.2 | exact h_.2.1 | exact h_.2.2 | exact h_.1.1.1 | exact h_.1.1.2 | exact h_.1.2.1 | exact h_.1.2.2 | refine ⟨?_, ?_⟩))))), fun _ => (by (with_reducible repeat (first | apply Kd.R_alloc | apply Kd.R_drewN | apply Kd.R_drew)); first | exact HO161.out | exact Kd.R_mono HO161.out (fun _ h_ => (by first | trivial | exact h_ | (repeat' (first | exact True.intro | exact h_.1 | exact h_.2 | exact h_.1.1 | exact h_.1.2 | exact h_.2.1 | exact h_.2.2 | exact h_.1.1.1 | exact h_.1.1.2 | exact h_.1.2.1 | exact h_.1.2.2 | refine ⟨?_, ?_⟩)))))⟩
                                refine steps_cons ?_ ?_
                                · rintro b a w' ⟨v152, v156, v160, ha, Q_HO_6, Q_HB, Q_HO153, Q_HO157, Q_HO161⟩ hb_ hon hoff
                                  refine ⟨_, rfl, fun K hK => ?_⟩
                                  have e55 : a.tmps[55]? = some (.int .u32 t158) := by rw [ha]; exact putSel_on (e := (18, 55, .int .u32 t158)) 12 rfl rfl (hon 18 (by kernel_rfl)) rfl
                                  have e57 : a.tmps[57]? = some (.int .u32 t162) := by rw [ha]; exact putSel_on (e := (20, 57, .int .u32 t162)) 14 rfl rfl (hon 20 (by kernel_rfl)) rfl
                                  have e53 : a.tmps[53]? = some (.bool (t140 == (Go.bits .xor .u32 (Go.bits .xor .u32 t145 t150) t154))) := by rw [ha]; exact putSel_on (e := (16, 53, .bool (t140 == (Go.bits .xor .u32 (Go.bits .xor .u32 t145 t150) t154)))) 10 rfl rfl (hon 16 (by kernel_rfl)) rfl
                                  replace ha := Aside0.mk ha
                                  have HO_6 := Aside0.mk Q_HO_6
                                  have HB := Aside0.mk Q_HB
                                  have HO153 := Aside0.mk (Q_HO153 (hon 12 (by kernel_rfl)))
                                  have HO157 := Aside0.mk (Q_HO157 (hon 17 (by kernel_rfl)))
                                  have HO161 := Aside0.mk (Q_HO161 (hon 19 (by kernel_rfl)))
                                  refine value_ (w1 := w') (v := .bool (t158 != t162)) (wanted_on rfl rfl rfl (e53.trans (by first | rfl | (simp [*]; done)))) rfl ?_ ?_
                                  · go_simp
                                    (try simp only [i64_w])
                                    try rfl
                                  refine hK.out _ _ ⟨v152, v156, v160, (by rw [ha.out]; exact putSel_upk 15 hb_ rfl rfl rfl), Q_HO_6, Q_HB, Q_HO153, Q_HO157, Q_HO161⟩
                                refine steps_cons ?_ ?_
                                · rintro b a w' ⟨v152, v156, v160, ha, Q_HO_6, Q_HB, Q_HO153, Q_HO157, Q_HO161⟩ hb_ hon hoff
                                  refine ⟨_, rfl, fun K hK => ?_⟩
                                  have e53 : a.tmps[53]? = some (.bool (t140 == (Go.bits .xor .u32 (Go.bits .xor .u32 t145 t150) t154))) := by rw [ha]; exact putSel_on (e := (16, 53, .bool (t140 == (Go.bits .xor .u32 (Go.bits .xor .u32 t145 t150) t154)))) 10 rfl rfl (hon 16 (by kernel_rfl)) rfl
                                  have e58 : a.tmps[58]? = some (.bool (t158 != t162)) := by rw [ha]; exact putSel_on (e := (21, 58, .bool (t158 != t162))) 15 rfl rfl (hon 21 (by kernel_rfl)) rfl
                                  replace ha := Aside0.mk ha
                                  have HO_6 := Aside0.mk Q_HO_6
                                  have HB := Aside0.mk Q_HB
                                  have HO153 := Aside0.mk (Q_HO153 (hon 12 (by kernel_rfl)))
                                  have HO157 := Aside0.mk (Q_HO157 (hon 17 (by kernel_rfl)))
                                  have HO161 := Aside0.mk (Q_HO161 (hon 19 (by kernel_rfl)))
                                  refine value_ (w1 := w') (v := .bool (t158 != t162)) (by first | rfl | (simp [Region.wanted, yielded, e53, e58, *]; done)) rfl ?_ ?_
                                  · go_simp
                                    (try simp only [i64_w])
                                    try rfl
                                  refine hK.out _ _ ⟨v152, v156, v160, (by rw [ha.out]; exact putSel_upk 16 hb_ rfl rfl rfl), Q_HO_6, Q_HB, Q_HO153, Q_HO157, Q_HO161⟩
                                refine steps_cons ?_ ?_
                                · rintro b a w' ⟨v152, v156, v160, ha, Q_HO_6, Q_HB, Q_HO153, Q_HO157, Q_HO161⟩ hb_ hon hoff
                                  refine ⟨_, rfl, fun K hK => ?_⟩
                                  have e59 : a.tmps[59]? = some (.bool (t158 != t162)) := by rw [ha]; exact putSel_on (e := (22, 59, .bool (t158 != t162))) 16 rfl rfl (hon 22 (by kernel_rfl)) rfl
                                  replace ha := Aside0.mk ha
                                  have HO_6 := Aside0.mk Q_HO_6
                                  have HB := Aside0.mk Q_HB
                                  have HO153 := Aside0.mk (Q_HO153 (hon 12 (by kernel_rfl)))
                                  have HO157 := Aside0.mk (Q_HO157 (hon 17 (by kernel_rfl)))
                                  have HO161 := Aside0.mk (Q_HO161 (hon 19 (by kernel_rfl)))
                                  refine value_ (w1 := w') (v := .bool (t158 != t162)) (by first | rfl | (simp [Region.wanted, yielded, e59, *]; done)) rfl ?_ ?_
                                  · go_simp
                                    (try simp only [i64_w])
                                    try rfl
                                  refine hK.out _ _ ⟨v152, v156, v160, (by rw [ha.out]; exact putSel_upk 17 hb_ rfl rfl rfl), Q_HO_6, Q_HB, Q_HO153, Q_HO157, Q_HO161⟩
                                refine steps_cons ?_ ?_
                                · rintro b a w' ⟨v152, v156, v160, ha, Q_HO_6, Q_HB, Q_HO153, Q_HO157, Q_HO161⟩ hb_ hon hoff
                                  refine ⟨_, rfl, fun K hK => ?_⟩
                                  have e60 : a.tmps[60]? = some (.bool (t158 != t162)) := by rw [ha]; exact putSel_on (e := (23, 60, .bool (t158 != t162))) 17 rfl rfl (hon 23 (by kernel_rfl)) rfl
                                  replace ha := Aside0.mk ha
                                  have HO_6 := Aside0.mk Q_HO_6
                                  have HB := Aside0.mk Q_HB
                                  have HO153 := Aside0.mk (Q_HO153 (hon 12 (by kernel_rfl)))
                                  have HO157 := Aside0.mk (Q_HO157 (hon 17 (by kernel_rfl)))
                                  have HO161 := Aside0.mk (Q_HO161 (hon 19 (by kernel_rfl)))
                                  refine goes_ Try.func15 (by kernel_rfl) rfl #[] (by first | rfl | (simp [Region.wanted, yielded, e60, *]; done)) rfl rfl (by first | (simp only [List.map_toArray, List.map_cons, List.map_nil, Act.eval, Array.getD_eq_getD_getElem?, Option.getD_some, e60]; done) | (simp only [List.map_toArray, List.map_cons, List.map_nil, Act.eval, Array.getD_eq_getD_getElem?, Option.getD_some, e60]; rfl)) ?_
                                  with_reducible refine (dioramalaw01_awake.calls k2  t163 _ A51.out).mono ?_
                                  rintro e w72 ⟨rfl, hb⟩
                                  refine ⟨_, rfl, ?_⟩
                                  have n0_ := Aside0.mk (Kd.R_below (by (with_reducible repeat (first | apply Kd.R_alloc | apply Kd.R_drewN | apply Kd.R_drew)); exact HO_6.out) hb)
                                  have n1_ := Aside0.mk (Kd.R_below (by (with_reducible repeat (first | apply Kd.R_alloc | apply Kd.R_drewN | apply Kd.R_drew)); exact HO153.out) hb)
                                  have n2_ := Aside0.mk (Kd.R_below (by (with_reducible repeat (first | apply Kd.R_alloc | apply Kd.R_drewN | apply Kd.R_drew)); exact HO157.out) hb)
                                  have n3_ := Aside0.mk (Kd.R_below (by (with_reducible repeat (first | apply Kd.R_alloc | apply Kd.R_drewN | apply Kd.R_drew)); exact HO161.out) hb)
                                  have n4_ := Aside0.mk (below_step (by repeat (first | (with_reducible first | exact HB.out | apply below_alloc | apply pw_below_drewN | apply below_drew1) | exact HB.out)) hb)
                                  clear HO_6
                                  clear HO153
                                  clear HO157
                                  clear HO161
                                  clear HB
                                  have HO_6 := n0_
                                  have HO153 := n1_
                                  have HO157 := n2_
                                  have HO161 := n3_
                                  have HB := n4_
                                  clear n0_ n1_ n2_ n3_ n4_
                                  (try clear hb)
                                  (try clear hb2)
                                  (try clear hk)
                                  (try clear hi)
                                  refine hK.out _ _ ⟨v152, v156, v160, (by rw [ha.out]; exact putSel_upk 18 hb_ rfl rfl rfl), (by (with_reducible repeat (first | apply Kd.R_alloc | apply Kd.R_drewN | apply Kd.R_drew)); first | exact HO_6.out | exact Kd.R_mono HO_6.out (fun _ h_ => (by first | trivial | exact h_ | (repeat' (first | exact True.intro | exact h_.1 | exact h_.2 | exact h_.1.1 | exact h_.1.2 | exact h_.2.1 | exact h_.2.2 | exact h_.1.1.1 | exact h_.1.1.2 | exact h_.1.2.1 | exact h_.1.2.2 | refine ⟨?_, ?_⟩))))), (by repeat (first | (with_reducible first | exact HB.out | apply below_alloc | apply pw_below_drewN | apply below_drew1) | exact HB.out)), fun _ => (by (with_reducible repeat (first | apply Kd.R_alloc | apply Kd.R_drewN | apply Kd.R_drew)); first | exact HO153.out | exact Kd.R_mono HO153.out (fun _ h_ => (by first | trivial | exact h_ | (repeat' (first | exact True.intro | exact h_.1 | exact h_.2 | exact h_.1.1 | exact h_.1.2 | exact h_.2.1 | exact h_.2.2 | exact h_.1.1.1 | exact h_.1.1.2 | exact h_.1.2.1 | exact h_.1.2.2 | refine ⟨?_, ?_⟩))))), fun _ => (by (with_reducible repeat (first | apply Kd.R_alloc | apply Kd.R_drewN | apply Kd.R_drew)); first | exact HO157.out | exact Kd.R_mono HO157.out (fun _ h_ => (by first | trivial | exact h_ | (repeat' (first | exact True.intro | exact h_.1 | exact h_.2 | exact h_.1.1 | exact h_.1.2 | exact h_.2.1 | exact h_.2.2 | exact h_.1.1.1 | exact h_.1.1.2 | exact h_.1.2.1 | exact h_.1.2.2 | refine ⟨?_, ?_⟩))))), fun _ => (by (with_reducible repeat (first | apply Kd.R_alloc | apply Kd.R_drewN | apply Kd.R_drew)); first | exact HO161.out | exact Kd.R_mono HO161.out (fun _ h_ => (by first | trivial | exact h_ | (repeat' (first | exact True.intro | exact h_.1 | exact h_.2 | exact h_.1.1 | exact h_.1.2 | exact h_.2.1 | exact h_.2.2 | exact h_.1.1.1 | exact h_.1.1.2 | exact h_.1.2.1 | exact h_.1.2.2 | refine ⟨?_, ?_⟩)))))⟩
                                refine steps_cons ?_ ?_
                                · rintro b a w' ⟨v152, v156, v160, ha, Q_HO_6, Q_HB, Q_HO153, Q_HO157, Q_HO161⟩ hb_ hon hoff
                                  refine ⟨_, rfl, fun K hK => ?_⟩
                                  have e60 : a.tmps[60]? = some (.bool (t158 != t162)) := by rw [ha]; exact putSel_on (e := (23, 60, .bool (t158 != t162))) 17 rfl rfl (hon 23 (by kernel_rfl)) rfl
                                  have e61 : a.tmps[61]? = some (.bool t163) := by rw [ha]; exact putSel_on (e := (24, 61, .bool t163)) 18 rfl rfl (hon 24 (by kernel_rfl)) rfl
                                  replace ha := Aside0.mk ha
                                  have HO_6 := Aside0.mk Q_HO_6
                                  have HB := Aside0.mk Q_HB
                                  have HO153 := Aside0.mk (Q_HO153 (hon 12 (by kernel_rfl)))
                                  have HO157 := Aside0.mk (Q_HO157 (hon 17 (by kernel_rfl)))
                                  have HO161 := Aside0.mk (Q_HO161 (hon 19 (by kernel_rfl)))
                                  refine value_ (w1 := w') (v := .bool t163) (by first | rfl | (simp [Region.wanted, yielded, e60, e61, *]; done)) rfl ?_ ?_
                                  · go_simp
                                    (try simp only [i64_w])
                                    try rfl
                                  refine hK.out _ _ ⟨v152, v156, v160, (by rw [ha.out]; exact putSel_upk 19 hb_ rfl rfl rfl), Q_HO_6, Q_HB, Q_HO153, Q_HO157, Q_HO161⟩
                                refine steps_cons ?_ ?_
                                · rintro b a w' ⟨v152, v156, v160, ha, Q_HO_6, Q_HB, Q_HO153, Q_HO157, Q_HO161⟩ hb_ hon hoff
                                  refine ⟨_, rfl, fun K hK => ?_⟩
                                  have e62 : a.tmps[62]? = some (.bool t163) := by rw [ha]; exact putSel_on (e := (25, 62, .bool t163)) 19 rfl rfl (hon 25 (by kernel_rfl)) rfl
                                  replace ha := Aside0.mk ha
                                  have HO_6 := Aside0.mk Q_HO_6
                                  have HB := Aside0.mk Q_HB
                                  have HO153 := Aside0.mk (Q_HO153 (hon 12 (by kernel_rfl)))
                                  have HO157 := Aside0.mk (Q_HO157 (hon 17 (by kernel_rfl)))
                                  have HO161 := Aside0.mk (Q_HO161 (hon 19 (by kernel_rfl)))
                                  refine value_ (w1 := w') (v := .bool t163) (by first | rfl | (simp [Region.wanted, yielded, e62, *]; done)) rfl ?_ ?_
                                  · go_simp
                                    (try simp only [i64_w])
                                    try rfl
                                  refine hK.out _ _ ⟨v152, v156, v160, (by rw [ha.out]; exact putSel_upk 20 hb_ rfl rfl rfl), Q_HO_6, Q_HB, Q_HO153, Q_HO157, Q_HO161⟩
                                exact steps_nil
                              rintro b a w72 hall ⟨v152, v156, v160, ha, Q_HO_6, Q_HB, Q_HO153, Q_HO157, Q_HO161⟩
                              clear HB HO_6
                              have hb1_ := hall 1 (by kernel_rfl)
                              have hb4_ := hall 4 (by kernel_rfl)
                              have hb5_ := hall 5 (by kernel_rfl)
                              have hb8_ := hall 8 (by kernel_rfl)
                              have hb9_ := hall 9 (by kernel_rfl)
                              have hb10_ := hall 10 (by kernel_rfl)
                              have hb12_ := hall 12 (by kernel_rfl)
                              have hb13_ := hall 13 (by kernel_rfl)
                              have hb14_ := hall 14 (by kernel_rfl)
                              have hb15_ := hall 15 (by kernel_rfl)
                              have hb16_ := hall 16 (by kernel_rfl)
                              have hb17_ := hall 17 (by kernel_rfl)
                              have hb18_ := hall 18 (by kernel_rfl)
                              have hb19_ := hall 19 (by kernel_rfl)
                              have hb20_ := hall 20 (by kernel_rfl)
                              have hb21_ := hall 21 (by kernel_rfl)
                              have hb22_ := hall 22 (by kernel_rfl)
                              have hb23_ := hall 23 (by kernel_rfl)
                              have hb24_ := hall 24 (by kernel_rfl)
                              have hb25_ := hall 25 (by kernel_rfl)
                              have hb26_ := hall 26 (by kernel_rfl)
                              subst ha
                              simp only [putSel, hb1_, hb4_, hb5_, hb8_, hb9_, hb10_, hb12_, hb13_, hb14_, hb15_, hb16_, hb17_, hb18_, hb19_, hb20_, hb21_, hb22_, hb23_, hb24_, hb25_, hb26_, if_true, Act.put, List.setIfInBounds_toArray, List.set_cons_zero, List.set_cons_succ]
                              have HO_6 := Aside0.mk Q_HO_6
                              clear Q_HO_6
                              have HB := Aside0.mk Q_HB
                              clear Q_HB
                              have HO153 := Aside0.mk (Q_HO153 hb12_)
                              clear Q_HO153
                              have HO157 := Aside0.mk (Q_HO157 hb17_)
                              clear Q_HO157
                              have HO161 := Aside0.mk (Q_HO161 hb19_)
                              clear Q_HO161
                              clear hall hb1_ hb4_ hb5_ hb8_ hb9_ hb10_ hb12_ hb13_ hb14_ hb15_ hb16_ hb17_ hb18_ hb19_ hb20_ hb21_ hb22_ hb23_ hb24_ hb25_ hb26_
                              try go_wp2
                              go_ret
                              exact ⟨by first | rfl | (simp [errW_none, errW_some] <;> rfl) | (simp [*, errW_none, errW_some] <;> rfl), by repeat (first | (with_reducible first | exact HB.out | apply below_alloc | apply pw_below_drewN | apply below_drew1) | exact HB.out)⟩
                          · rw [if_neg c27] at H
                            have c27b0 : (t140 == (Go.bits .xor .u32 (Go.bits .xor .u32 t145 t150) t154)) = false := beq_eq_false_iff_ne.mpr c27
                            have c27b1 : (t140 != (Go.bits .xor .u32 (Go.bits .xor .u32 t145 t150) t154)) = true := bne_iff_ne.mpr c27
                            obtain rfl := Option.some.inj H
                            obtain ⟨Ao73, co73, eo73⟩ := Kd.R_slice HO_6.out
                            subst eo73
                            try go_wp2
                            have n0_ := Aside0.mk (Kd.R_drew HO_6.out)
                            have n1_ := Aside0.mk (below_drew1 HB.out)
                            clear HO_6
                            clear HB
                            have HO_6 := n0_
                            have HB := n1_
                            clear n0_ n1_
                            have q75 : (x5_2 : Int) ≤ ((l0.length : Int) : Int) := of_decide_eq_true (by first | (with_reducible assumption) | assumption)
                            obtain ⟨i075, hi075, _, hsz75, _⟩ := info_parts info5
                            have hroom75 : l0.length ≤ c0 := HC0.out
                            have hC75 : Kd.C (Kd.int .u8) _ A0 l0.length l0 := HR0.out
                            have hcut75 := cut_to (P := Try.prog) 22 5 .i64 Try.underlying22 hi075 A0 l0.length c0 x5_2 (of_decide_eq_true (by first | (with_reducible assumption) | assumption)) q75 hroom75
                            have hr75 := Kd.C_take (m := (x5_2 : Int).toNat) hC75 (by omega)
                            have hy75 : y141.length = (x5_2 : Int).toNat := (by rw [Ny141.out, List.length_take]; omega)
                            rw [← Ny141.out] at hr75
                            rw [← hy75] at hcut75
                            have HR144 := Aside0.mk hr75
                            have HC144 := Aside0.mk (show y141.length ≤ c0 from by omega)
                            clear hr75 hC75 hroom75 hi075 hsz75
                            have KY75 := Aside0.mk hy75
                            clear hy75
                            replace q75 := eq_true q75
                            have q76 : (x5_2 : Int) ≤ ((l1.length : Int) : Int) := of_decide_eq_true (by first | (with_reducible assumption) | assumption)
                            obtain ⟨i076, hi076, _, hsz76, _⟩ := info_parts info5
                            have hroom76 : l1.length ≤ c1 := HC1.out
                            have hC76 : Kd.C (Kd.int .u8) _ A1 l1.length l1 := HR1.out
                            have hcut76 := cut_to (P := Try.prog) 22 5 .i64 Try.underlying22 hi076 A1 l1.length c1 x5_2 (of_decide_eq_true (by first | (with_reducible assumption) | assumption)) q76 hroom76
                            have hr76 := Kd.C_take (m := (x5_2 : Int).toNat) hC76 (by omega)
                            have hy76 : y146.length = (x5_2 : Int).toNat := (by rw [Ny146.out, List.length_take]; omega)
                            rw [← Ny146.out] at hr76
                            rw [← hy76] at hcut76
                            have HR149 := Aside0.mk hr76
                            have HC149 := Aside0.mk (show y146.length ≤ c1 from by omega)
                            clear hr76 hC76 hroom76 hi076 hsz76
                            have KY76 := Aside0.mk hy76
                            clear hy76
                            replace q76 := eq_true q76
                            refine start_ (n := 27) (S := fun w' => True) (ds := []) #[false, false, false, false, false, false, false, false, false, false, false, false, false, false, false, false, false, false, false, false, false, false, false, false, false, false, false] (by kernel_rfl) rfl rfl trivial (fun hHeld => ?_); refine with_tabW dioramalaw01_BitsLinear.tab11 dioramalaw01_BitsLinear.bits11 (fun HT_ HW_ => ?_)
                            generalize wr.drew = w74 at HO_6 HB HR144 HR149 hHeld ⊢
                            refine pure_ (i := 0) (N := some 37) (v := ?_) (a' := ?_) #[true, false, false, false, false, false, false, false, false, false, false, false, false, false, false, false, false, false, false, false, false, false, false, false, false, false, false] rfl rfl (any_of HT_.out (by kernel_rfl)) (fun _ _ _ h => h) (Or.inl ⟨by rfl, ?_⟩) ?_ ?_
                            rotate_left
                            · intro w'
                              go_simp
                              with_reducible rfl
                            rotate_left
                            · simp only [Act.put, List.setIfInBounds_toArray, List.set_cons_zero, List.set_cons_succ, i64_w, i32_w]
                              rfl
                            refine pure_ (i := 2) (N := some 39) (v := ?_) (a' := ?_) #[true, false, true, false, false, false, false, false, false, false, false, false, false, false, false, false, false, false, false, false, false, false, false, false, false, false, false] rfl rfl (any_of HT_.out (by kernel_rfl)) (fun _ _ _ h => h) (Or.inl ⟨by rfl, ?_⟩) ?_ ?_
                            rotate_left
                            · intro w'
                              go_simp
                              with_reducible rfl
                            rotate_left
                            · simp only [Act.put, List.setIfInBounds_toArray, List.set_cons_zero, List.set_cons_succ, i64_w, i32_w]
                              rfl
                            refine pure_ (i := 3) (N := some 40) (v := ?_) (a' := ?_) #[true, false, true, true, false, false, false, false, false, false, false, false, false, false, false, false, false, false, false, false, false, false, false, false, false, false, false] rfl rfl (any_of HT_.out (by kernel_rfl)) (fun _ _ _ h => h) (Or.inl ⟨by rfl, ?_⟩) ?_ ?_
                            rotate_left
                            · intro w'
                              go_simp
                              with_reducible rfl
                            rotate_left
                            · simp only [Act.put, List.setIfInBounds_toArray, List.set_cons_zero, List.set_cons_succ, i64_w, i32_w]
                              rfl
                            refine pure_ (i := 6) (N := some 43) (v := ?_) (a' := ?_) #[true, false, true, true, false, false, true, false, false, false, false, false, false, false, false, false, false, false, false, false, false, false, false, false, false, false, false] rfl rfl (any_of HT_.out (by kernel_rfl)) (fun _ _ _ h => h) (Or.inl ⟨by rfl, ?_⟩) ?_ ?_
                            rotate_left
                            · intro w'
                              go_simp
                              with_reducible rfl
                            rotate_left
                            · simp only [Act.put, List.setIfInBounds_toArray, List.set_cons_zero, List.set_cons_succ, i64_w, i32_w]
                              rfl
                            refine pure_ (i := 7) (N := some 44) (v := ?_) (a' := ?_) #[true, false, true, true, false, false, true, true, false, false, false, false, false, false, false, false, false, false, false, false, false, false, false, false, false, false, false] rfl rfl (any_of HT_.out (by kernel_rfl)) (fun _ _ _ h => h) (Or.inl ⟨by rfl, ?_⟩) ?_ ?_
                            rotate_left
                            · intro w'
                              go_simp
                              with_reducible rfl
                            rotate_left
                            · simp only [Act.put, List.setIfInBounds_toArray, List.set_cons_zero, List.set_cons_succ, i64_w, i32_w]
                              rfl
                            refine pure_ (i := 11) (N := some 48) (v := ?_) (a' := ?_) #[true, false, true, true, false, false, true, true, false, false, false, true, false, false, false, false, false, false, false, false, false, false, false, false, false, false, false] rfl rfl (any_of HT_.out (by kernel_rfl)) (fun _ _ _ h => h) (Or.inl ⟨by rfl, ?_⟩) ?_ ?_
                            rotate_left
                            · intro w'
                              go_simp
                              with_reducible rfl
                            rotate_left
                            · simp only [Act.put, List.setIfInBounds_toArray, List.set_cons_zero, List.set_cons_succ, i64_w, i32_w]
                              rfl
                            refine inv_at [1, 4, 5, 8, 9, 10, 12, 13, 14, 15, 16, 17, 18, 19, 20, 21, 22, 23, 24, 25, 26] (fun a0_ b a w' => ∃ (v152 : Value), a = putSel a0_ b [(1, 38, .int .u32 t140), (4, 41, .slice A0 y141.length c0), (5, 42, .int .u32 t145), (8, 45, .slice A1 y146.length c1), (9, 46, .int .u32 t150), (10, 47, .int .u32 (Go.bits .xor .u32 t145 t150)), (12, 49, v152), (13, 50, .int .u32 t154), (14, 51, .int .u32 (Go.bits .xor .u32 (Go.bits .xor .u32 t145 t150) t154)), (15, 52, .bool (t140 == (Go.bits .xor .u32 (Go.bits .xor .u32 t145 t150) t154))), (16, 53, .bool (t140 == (Go.bits .xor .u32 (Go.bits .xor .u32 t145 t150) t154))), (17, 54, undef), (18, 55, undef), (19, 56, undef), (20, 57, undef), (21, 58, undef), (22, 59, .bool false), (23, 60, .bool false), (24, 61, undef), (25, 62, .bool false), (26, 4, .bool false)] ∧ (Kd.R (Kd.int .u8) 5 w' w.heap.size (fun _ => True) (.slice Ao73 x6_2.length co73) x6_2) ∧ (Below w.heap.size w w') ∧ (b 12 = true → Kd.R (Kd.int .u8) 5 w' w.heap.size (fun k_ => some k_ ≠ (.slice Ao73 x6_2.length co73 : Value).ownBlock) v152 y151)) HT_.out HW_.out (by kernel_rfl) (by kernel_rfl) ?_ ?_ ?_
                            · exact ⟨.bool false, by simp only [putSel, Bool.false_eq_true, if_false], HO_6.out, HB.out, fun h_ => absurd h_ (by decide)⟩
                            · skip
                              clear HB HO_6
                              refine steps_cons ?_ ?_
                              · rintro b a w' ⟨v152, ha, Q_HO_6, Q_HB, Q_HO153⟩ hb_ hon hoff
                                refine ⟨_, rfl, fun K hK => ?_⟩
                                have e37 : a.tmps[37]? = some (.slice Ao73 x6_2.length co73) := by rw [ha]; exact (putSel_off rfl).trans rfl
                                replace ha := Aside0.mk ha
                                have HO_6 := Aside0.mk Q_HO_6
                                have HB := Aside0.mk Q_HB
                                refine goes_ Try.func13 (by kernel_rfl) rfl #[.slice Ao73 x6_2.length co73] (by first | rfl | (simp [Region.wanted, yielded, e37, *]; done)) rfl rfl (by first | (simp only [List.map_toArray, List.map_cons, List.map_nil, Act.eval, Array.getD_eq_getD_getElem?, Option.getD_some, e37]; done) | (simp only [List.map_toArray, List.map_cons, List.map_nil, Act.eval, Array.getD_eq_getD_getElem?, Option.getD_some, e37]; rfl)) ?_
                                with_reducible refine (bits_Sum.callsB k2 _ _ x6_2 t140 _ ?side1 ?side2 A18.out).mono ?_
                                (case side1 => repeat (first | exact (Kd.R_reads' HO_6.out).2.2 | (with_reducible refine Kd.C_alloc ?_ _) | (with_reducible refine Kd.C_drewN ?_ _) | (with_reducible refine Kd.C_drew ?_)))
                                (case side2 => exact (Kd.R_reads' HO_6.out).2.1)
                                rintro e w77 ⟨rfl, hb⟩
                                refine ⟨_, rfl, ?_⟩
                                have n0_ := Aside0.mk (Kd.R_below (by (with_reducible repeat (first | apply Kd.R_alloc | apply Kd.R_drewN | apply Kd.R_drew)); exact HO_6.out) hb)
                                have n1_ := Aside0.mk (below_step (by repeat (first | (with_reducible first | exact HB.out | apply below_alloc | apply pw_below_drewN | apply below_drew1) | exact HB.out)) hb)
                                have z_HO153 := fun (h0_ : b 12 = true) => (show Kd.R (Kd.int .u8) 5 w77 w.heap.size (fun k_ => some k_ ≠ (.slice Ao73 x6_2.length co73 : Value).ownBlock) v152 y151 from by first | exact (Kd.R_below (by (with_reducible repeat (first | apply Kd.R_alloc | apply Kd.R_drewN | apply Kd.R_drew)); exact (Q_HO153 h0_)) hb) | exact Kd.R_mono (Kd.R_below (by (with_reducible repeat (first | apply Kd.R_alloc | apply Kd.R_drewN | apply Kd.R_drew)); exact (Q_HO153 h0_)) hb) (fun _ h_ => by first | trivial | exact h_ | exact h_.1))
                                clear HO_6
                                clear HB
                                have HO_6 := n0_
                                have HB := n1_
                                clear n0_ n1_
                                (try clear hb)
                                (try clear hb2)
                                (try clear hk)
                                (try clear hi)
                                refine hK.out _ _ ⟨v152, (by rw [ha.out]; exact putSel_upk 0 hb_ rfl rfl rfl), (by (with_reducible repeat (first | apply Kd.R_alloc | apply Kd.R_drewN | apply Kd.R_drew)); first | exact HO_6.out | exact Kd.R_mono HO_6.out (fun _ h_ => (by first | trivial | exact h_ | (repeat' (first | exact True.intro | exact h_.1 | exact h_.2 | exact h_.1.1 | exact h_.1.2 | exact h_.2.1 | exact h_.2.2 | exact h_.1.1.1 | exact h_.1.1.2 | exact h_.1.2.1 | exact h_.1.2.2 | refine ⟨?_, ?_⟩))))), (by repeat (first | (with_reducible first | exact HB.out | apply below_alloc | apply pw_below_drewN | apply below_drew1) | exact HB.out)), z_HO153⟩
                              refine steps_cons ?_ ?_
                              · rintro b a w' ⟨v152, ha, Q_HO_6, Q_HB, Q_HO153⟩ hb_ hon hoff
                                refine ⟨_, rfl, fun K hK => ?_⟩
                                have e39 : a.tmps[39]? = some (.slice A0 l0.length c0) := by rw [ha]; exact (putSel_off rfl).trans rfl
                                have e40 : a.tmps[40]? = some (.int .i64 x5_2) := by rw [ha]; exact (putSel_off rfl).trans rfl
                                replace ha := Aside0.mk ha
                                have HO_6 := Aside0.mk Q_HO_6
                                have HB := Aside0.mk Q_HB
                                refine value_ (w1 := w') (v := .slice A0 y141.length c0) (by first | rfl | (simp [Region.wanted, yielded, e39, e40, *]; done)) rfl ?_ ?_
                                · go_simp
                                  (try simp only [i64_w])
                                  try rfl
                                refine hK.out _ _ ⟨v152, (by rw [ha.out]; exact putSel_upk 1 hb_ rfl rfl rfl), Q_HO_6, Q_HB, Q_HO153⟩
                              refine steps_cons ?_ ?_
                              · rintro b a w' ⟨v152, ha, Q_HO_6, Q_HB, Q_HO153⟩ hb_ hon hoff
                                refine ⟨_, rfl, fun K hK => ?_⟩
                                have e41 : a.tmps[41]? = some (.slice A0 y141.length c0) := by rw [ha]; exact putSel_on (e := (4, 41, .slice A0 y141.length c0)) 1 rfl rfl (hon 4 (by kernel_rfl)) rfl
                                replace ha := Aside0.mk ha
                                have HO_6 := Aside0.mk Q_HO_6
                                have HB := Aside0.mk Q_HB
                                refine goes_ Try.func13 (by kernel_rfl) rfl #[.slice A0 y141.length c0] (by first | rfl | (simp [Region.wanted, yielded, e41, *]; done)) rfl rfl (by first | (simp only [List.map_toArray, List.map_cons, List.map_nil, Act.eval, Array.getD_eq_getD_getElem?, Option.getD_some, e41]; done) | (simp only [List.map_toArray, List.map_cons, List.map_nil, Act.eval, Array.getD_eq_getD_getElem?, Option.getD_some, e41]; rfl)) ?_
                                with_reducible refine (bits_Sum.callsB k2 _ _ y141 t145 _ ?side1 ?side2 A21.out).mono ?_
                                (case side1 => repeat (first | exact (Kd.C_below HR144.out HB.out) | (with_reducible refine Kd.C_alloc ?_ _) | (with_reducible refine Kd.C_drewN ?_ _) | (with_reducible refine Kd.C_drew ?_)))
                                (case side2 => exact HC144.out)
                                rintro e w79 ⟨rfl, hb⟩
                                refine ⟨_, rfl, ?_⟩
                                have n0_ := Aside0.mk (Kd.R_below (by (with_reducible repeat (first | apply Kd.R_alloc | apply Kd.R_drewN | apply Kd.R_drew)); exact HO_6.out) hb)
                                have n1_ := Aside0.mk (below_step (by repeat (first | (with_reducible first | exact HB.out | apply below_alloc | apply pw_below_drewN | apply below_drew1) | exact HB.out)) hb)
                                have z_HO153 := fun (h0_ : b 12 = true) => (show Kd.R (Kd.int .u8) 5 w79 w.heap.size (fun k_ => some k_ ≠ (.slice Ao73 x6_2.length co73 : Value).ownBlock) v152 y151 from by first | exact (Kd.R_below (by (with_reducible repeat (first | apply Kd.R_alloc | apply Kd.R_drewN | apply Kd.R_drew)); exact (Q_HO153 h0_)) hb) | exact Kd.R_mono (Kd.R_below (by (with_reducible repeat (first | apply Kd.R_alloc | apply Kd.R_drewN | apply Kd.R_drew)); exact (Q_HO153 h0_)) hb) (fun _ h_ => by first | trivial | exact h_ | exact h_.1))
                                clear HO_6
                                clear HB
                                have HO_6 := n0_
                                have HB := n1_
                                clear n0_ n1_
                                (try clear hb)
                                (try clear hb2)
                                (try clear hk)
                                (try clear hi)
                                refine hK.out _ _ ⟨v152, (by rw [ha.out]; exact putSel_upk 2 hb_ rfl rfl rfl), (by (with_reducible repeat (first | apply Kd.R_alloc | apply Kd.R_drewN | apply Kd.R_drew)); first | exact HO_6.out | exact Kd.R_mono HO_6.out (fun _ h_ => (by first | trivial | exact h_ | (repeat' (first | exact True.intro | exact h_.1 | exact h_.2 | exact h_.1.1 | exact h_.1.2 | exact h_.2.1 | exact h_.2.2 | exact h_.1.1.1 | exact h_.1.1.2 | exact h_.1.2.1 | exact h_.1.2.2 | refine ⟨?_, ?_⟩))))), (by repeat (first | (with_reducible first | exact HB.out | apply below_alloc | apply pw_below_drewN | apply below_drew1) | exact HB.out)), z_HO153⟩
                              refine steps_cons ?_ ?_
                              · rintro b a w' ⟨v152, ha, Q_HO_6, Q_HB, Q_HO153⟩ hb_ hon hoff
                                refine ⟨_, rfl, fun K hK => ?_⟩
                                have e43 : a.tmps[43]? = some (.slice A1 l1.length c1) := by rw [ha]; exact (putSel_off rfl).trans rfl
                                have e44 : a.tmps[44]? = some (.int .i64 x5_2) := by rw [ha]; exact (putSel_off rfl).trans rfl
                                replace ha := Aside0.mk ha
                                have HO_6 := Aside0.mk Q_HO_6
                                have HB := Aside0.mk Q_HB
                                refine value_ (w1 := w') (v := .slice A1 y146.length c1) (by first | rfl | (simp [Region.wanted, yielded, e43, e44, *]; done)) rfl ?_ ?_
                                · go_simp
                                  (try simp only [i64_w])
                                  try rfl
                                refine hK.out _ _ ⟨v152, (by rw [ha.out]; exact putSel_upk 3 hb_ rfl rfl rfl), Q_HO_6, Q_HB, Q_HO153⟩
                              refine steps_cons ?_ ?_
                              · rintro b a w' ⟨v152, ha, Q_HO_6, Q_HB, Q_HO153⟩ hb_ hon hoff
                                refine ⟨_, rfl, fun K hK => ?_⟩
                                have e45 : a.tmps[45]? = some (.slice A1 y146.length c1) := by rw [ha]; exact putSel_on (e := (8, 45, .slice A1 y146.length c1)) 3 rfl rfl (hon 8 (by kernel_rfl)) rfl
                                replace ha := Aside0.mk ha
                                have HO_6 := Aside0.mk Q_HO_6
                                have HB := Aside0.mk Q_HB
                                refine goes_ Try.func13 (by kernel_rfl) rfl #[.slice A1 y146.length c1] (by first | rfl | (simp [Region.wanted, yielded, e45, *]; done)) rfl rfl (by first | (simp only [List.map_toArray, List.map_cons, List.map_nil, Act.eval, Array.getD_eq_getD_getElem?, Option.getD_some, e45]; done) | (simp only [List.map_toArray, List.map_cons, List.map_nil, Act.eval, Array.getD_eq_getD_getElem?, Option.getD_some, e45]; rfl)) ?_
                                with_reducible refine (bits_Sum.callsB k2 _ _ y146 t150 _ ?side1 ?side2 A24.out).mono ?_
                                (case side1 => repeat (first | exact (Kd.C_below HR149.out HB.out) | (with_reducible refine Kd.C_alloc ?_ _) | (with_reducible refine Kd.C_drewN ?_ _) | (with_reducible refine Kd.C_drew ?_)))
                                (case side2 => exact HC149.out)
                                rintro e w80 ⟨rfl, hb⟩
                                refine ⟨_, rfl, ?_⟩
                                have n0_ := Aside0.mk (Kd.R_below (by (with_reducible repeat (first | apply Kd.R_alloc | apply Kd.R_drewN | apply Kd.R_drew)); exact HO_6.out) hb)
                                have n1_ := Aside0.mk (below_step (by repeat (first | (with_reducible first | exact HB.out | apply below_alloc | apply pw_below_drewN | apply below_drew1) | exact HB.out)) hb)
                                have z_HO153 := fun (h0_ : b 12 = true) => (show Kd.R (Kd.int .u8) 5 w80 w.heap.size (fun k_ => some k_ ≠ (.slice Ao73 x6_2.length co73 : Value).ownBlock) v152 y151 from by first | exact (Kd.R_below (by (with_reducible repeat (first | apply Kd.R_alloc | apply Kd.R_drewN | apply Kd.R_drew)); exact (Q_HO153 h0_)) hb) | exact Kd.R_mono (Kd.R_below (by (with_reducible repeat (first | apply Kd.R_alloc | apply Kd.R_drewN | apply Kd.R_drew)); exact (Q_HO153 h0_)) hb) (fun _ h_ => by first | trivial | exact h_ | exact h_.1))
                                clear HO_6
                                clear HB
                                have HO_6 := n0_
                                have HB := n1_
                                clear n0_ n1_
                                (try clear hb)
                                (try clear hb2)
                                (try clear hk)
                                (try clear hi)
                                refine hK.out _ _ ⟨v152, (by rw [ha.out]; exact putSel_upk 4 hb_ rfl rfl rfl), (by (with_reducible repeat (first | apply Kd.R_alloc | apply Kd.R_drewN | apply Kd.R_drew)); first | exact HO_6.out | exact Kd.R_mono HO_6.out (fun _ h_ => (by first | trivial | exact h_ | (repeat' (first | exact True.intro | exact h_.1 | exact h_.2 | exact h_.1.1 | exact h_.1.2 | exact h_.2.1 | exact h_.2.2 | exact h_.1.1.1 | exact h_.1.1.2 | exact h_.1.2.1 | exact h_.1.2.2 | refine ⟨?_, ?_⟩))))), (by repeat (first | (with_reducible first | exact HB.out | apply below_alloc | apply pw_below_drewN | apply below_drew1) | exact HB.out)), z_HO153⟩
                              refine steps_cons ?_ ?_
                              · rintro b a w' ⟨v152, ha, Q_HO_6, Q_HB, Q_HO153⟩ hb_ hon hoff
                                refine ⟨_, rfl, fun K hK => ?_⟩
                                have e42 : a.tmps[42]? = some (.int .u32 t145) := by rw [ha]; exact putSel_on (e := (5, 42, .int .u32 t145)) 2 rfl rfl (hon 5 (by kernel_rfl)) rfl
                                have e46 : a.tmps[46]? = some (.int .u32 t150) := by rw [ha]; exact putSel_on (e := (9, 46, .int .u32 t150)) 4 rfl rfl (hon 9 (by kernel_rfl)) rfl
                                replace ha := Aside0.mk ha
                                have HO_6 := Aside0.mk Q_HO_6
                                have HB := Aside0.mk Q_HB
                                refine value_ (w1 := w') (v := .int .u32 (Go.bits .xor .u32 t145 t150)) (by first | rfl | (simp [Region.wanted, yielded, e42, e46, *]; done)) rfl ?_ ?_
                                · go_simp
                                  (try simp only [i64_w])
                                  try rfl
                                refine hK.out _ _ ⟨v152, (by rw [ha.out]; exact putSel_upk 5 hb_ rfl rfl rfl), Q_HO_6, Q_HB, Q_HO153⟩
                              refine steps_cons ?_ ?_
                              · rintro b a w' ⟨v152, ha, Q_HO_6, Q_HB, Q_HO153⟩ hb_ hon hoff
                                refine ⟨_, rfl, fun K hK => ?_⟩
                                have e48 : a.tmps[48]? = some (.int .i64 x5_2) := by rw [ha]; exact (putSel_off rfl).trans rfl
                                replace ha := Aside0.mk ha
                                have HO_6 := Aside0.mk Q_HO_6
                                have HB := Aside0.mk Q_HB
                                refine Kd.R_make_step (Kd.int .u8) _ 5 (by first | rfl | (simp [Region.wanted, yielded, e48, *]; done)) (N := 49) rfl 22 _ _ rfl x5_2 (by first | rfl | (simp [Act.eval, *]; done)) (by first | rfl | (simp [Act.eval, *]; done)) Try.underlying22 (.int .u8 0) 1 info5 rfl (by decide) (by omega) 0 (ok := fun _ => True) (okp := fun _ => True) rfl (fun _ hk => hk) trivial (of_decide_eq_true (by first | (with_reducible assumption) | assumption)) (Nat.le_trans (Nat.mul_le_mul_right _ (of_decide_eq_true (by first | (with_reducible assumption) | assumption) : x5_2.toNat ≤ 281474976710656)) (by omega)) (Below.refl _ _) (Nat.le_refl _) ?_
                                intro v152 w77 ho78 hb hg_ hnew_
                                clear hg_ hnew_
                                (first | rw [← Ny151.out] at ho78 | (simp only [Int.reduceToNat] at ho78; rw [← Ny151.out] at ho78))
                                have n0_ := Aside0.mk (Kd.R_elder' (by (with_reducible repeat (first | apply Kd.R_alloc | apply Kd.R_drewN | apply Kd.R_drew)); exact HO_6.out) (Kd.R_base ho78) hb)
                                have n1_ := Aside0.mk (Kd.R_lower (Kd.R_new' ho78 (Kd.R_lt (by (with_reducible repeat (first | apply Kd.R_alloc | apply Kd.R_drewN | apply Kd.R_drew)); exact HO_6.out))) (below_size (by repeat (first | (with_reducible first | exact HB.out | apply below_alloc | apply pw_below_drewN | apply below_drew1) | exact HB.out))))
                                have n2_ := Aside0.mk (below_step (by repeat (first | (with_reducible first | exact HB.out | apply below_alloc | apply pw_below_drewN | apply below_drew1) | exact HB.out)) hb)
                                clear HO_6
                                clear HB
                                have HO_6 := n0_
                                have HO153 := n1_
                                have HB := n2_
                                clear n0_ n1_ n2_
                                clear hb ho78
                                refine hK.out _ _ ⟨v152, (by rw [ha.out]; exact putSel_upk 6 hb_ rfl rfl rfl), (by (with_reducible repeat (first | apply Kd.R_alloc | apply Kd.R_drewN | apply Kd.R_drew)); first | exact Kd.R_mono HO_6.out (fun _ hk => hk.2) | exact Kd.R_mono HO_6.out (fun _ h_ => (by first | trivial | exact h_ | (repeat' (first | exact True.intro | exact h_.1 | exact h_.2 | exact h_.1.1 | exact h_.1.2 | exact h_.2.1 | exact h_.2.2 | exact h_.1.1.1 | exact h_.1.1.2 | exact h_.1.2.1 | exact h_.1.2.2 | refine ⟨?_, ?_⟩))))), (by repeat (first | (with_reducible first | exact HB.out | apply below_alloc | apply pw_below_drewN | apply below_drew1) | exact HB.out)), fun _ => (by (with_reducible repeat (first | apply Kd.R_alloc | apply Kd.R_drewN | apply Kd.R_drew)); first | exact Kd.R_mono HO153.out (fun _ hk => hk.2) | exact Kd.R_mono HO153.out (fun _ h_ => (by first | trivial | exact h_ | (repeat' (first | exact True.intro | exact h_.1 | exact h_.2 | exact h_.1.1 | exact h_.1.2 | exact h_.2.1 | exact h_.2.2 | exact h_.1.1.1 | exact h_.1.1.2 | exact h_.1.2.1 | exact h_.1.2.2 | refine ⟨?_, ?_⟩)))))⟩
                              refine steps_cons ?_ ?_
                              · rintro b a w' ⟨v152, ha, Q_HO_6, Q_HB, Q_HO153⟩ hb_ hon hoff
                                refine ⟨_, rfl, fun K hK => ?_⟩
                                have e49 : a.tmps[49]? = some (v152) := by rw [ha]; exact putSel_on (e := (12, 49, v152)) 6 rfl rfl (hon 12 (by kernel_rfl)) rfl
                                replace ha := Aside0.mk ha
                                have HO_6 := Aside0.mk Q_HO_6
                                have HB := Aside0.mk Q_HB
                                have HO153 := Aside0.mk (Q_HO153 (hon 12 (by kernel_rfl)))
                                obtain ⟨Ao83, co83, eo83⟩ := Kd.R_slice HO153.out
                                (first | subst eo83 | (injection eo83 with f1_ f2_ f3_; have f4_ := f1_.symm; have f5_ := f3_.symm; clear f1_ f2_ f3_; subst f4_; subst f5_))
                                refine goes_ Try.func13 (by kernel_rfl) rfl #[.slice Ao83 y151.length co83] (by first | rfl | (simp [Region.wanted, yielded, e49, *]; done)) rfl rfl (by first | (simp only [List.map_toArray, List.map_cons, List.map_nil, Act.eval, Array.getD_eq_getD_getElem?, Option.getD_some, e49]; done) | (simp only [List.map_toArray, List.map_cons, List.map_nil, Act.eval, Array.getD_eq_getD_getElem?, Option.getD_some, e49]; rfl)) ?_
                                with_reducible refine (bits_Sum.callsB k2 _ _ y151 t154 _ ?side1 ?side2 A26.out).mono ?_
                                (case side1 => repeat (first | exact (Kd.R_reads' HO153.out).2.2 | (with_reducible refine Kd.C_alloc ?_ _) | (with_reducible refine Kd.C_drewN ?_ _) | (with_reducible refine Kd.C_drew ?_)))
                                (case side2 => exact (Kd.R_reads' HO153.out).2.1)
                                rintro e w84 ⟨rfl, hb⟩
                                refine ⟨_, rfl, ?_⟩
                                have n0_ := Aside0.mk (Kd.R_below (by (with_reducible repeat (first | apply Kd.R_alloc | apply Kd.R_drewN | apply Kd.R_drew)); exact HO_6.out) hb)
                                have n1_ := Aside0.mk (Kd.R_below (by (with_reducible repeat (first | apply Kd.R_alloc | apply Kd.R_drewN | apply Kd.R_drew)); exact HO153.out) hb)
                                have n2_ := Aside0.mk (below_step (by repeat (first | (with_reducible first | exact HB.out | apply below_alloc | apply pw_below_drewN | apply below_drew1) | exact HB.out)) hb)
                                clear HO_6
                                clear HO153
                                clear HB
                                have HO_6 := n0_
                                have HO153 := n1_
                                have HB := n2_
                                clear n0_ n1_ n2_
                                (try clear hb)
                                (try clear hb2)
                                (try clear hk)
                                (try clear hi)
                                refine hK.out _ _ ⟨.slice Ao83 y151.length co83, (by rw [ha.out]; exact putSel_upk 7 hb_ rfl rfl rfl), (by (with_reducible repeat (first | apply Kd.R_alloc | apply Kd.R_drewN | apply Kd.R_drew)); first | exact HO_6.out | exact Kd.R_mono HO_6.out (fun _ h_ => (by first | trivial | exact h_ | (repeat' (first | exact True.intro | exact h_.1 | exact h_.2 | exact h_.1.1 | exact h_.1.2 | exact h_.2.1 | exact h_.2.2 | exact h_.1.1.1 | exact h_.1.1.2 | exact h_.1.2.1 | exact h_.1.2.2 | refine ⟨?_, ?_⟩))))), (by repeat (first | (with_reducible first | exact HB.out | apply below_alloc | apply pw_below_drewN | apply below_drew1) | exact HB.out)), fun _ => (by (with_reducible repeat (first | apply Kd.R_alloc | apply Kd.R_drewN | apply Kd.R_drew)); first | exact HO153.out | exact Kd.R_mono HO153.out (fun _ h_ => (by first | trivial | exact h_ | (repeat' (first | exact True.intro | exact h_.1 | exact h_.2 | exact h_.1.1 | exact h_.1.2 | exact h_.2.1 | exact h_.2.2 | exact h_.1.1.1 | exact h_.1.1.2 | exact h_.1.2.1 | exact h_.1.2.2 | refine ⟨?_, ?_⟩)))))⟩
                              refine steps_cons ?_ ?_
                              · rintro b a w' ⟨v152, ha, Q_HO_6, Q_HB, Q_HO153⟩ hb_ hon hoff
                                refine ⟨_, rfl, fun K hK => ?_⟩
                                have e47 : a.tmps[47]? = some (.int .u32 (Go.bits .xor .u32 t145 t150)) := by rw [ha]; exact putSel_on (e := (10, 47, .int .u32 (Go.bits .xor .u32 t145 t150))) 5 rfl rfl (hon 10 (by kernel_rfl)) rfl
                                have e50 : a.tmps[50]? = some (.int .u32 t154) := by rw [ha]; exact putSel_on (e := (13, 50, .int .u32 t154)) 7 rfl rfl (hon 13 (by kernel_rfl)) rfl
                                replace ha := Aside0.mk ha
                                have HO_6 := Aside0.mk Q_HO_6
                                have HB := Aside0.mk Q_HB
                                have HO153 := Aside0.mk (Q_HO153 (hon 12 (by kernel_rfl)))
                                refine value_ (w1 := w') (v := .int .u32 (Go.bits .xor .u32 (Go.bits .xor .u32 t145 t150) t154)) (by first | rfl | (simp [Region.wanted, yielded, e47, e50, *]; done)) rfl ?_ ?_
                                · go_simp
                                  (try simp only [i64_w])
                                  try rfl
                                refine hK.out _ _ ⟨v152, (by rw [ha.out]; exact putSel_upk 8 hb_ rfl rfl rfl), Q_HO_6, Q_HB, Q_HO153⟩
                              refine steps_cons ?_ ?_
                              · rintro b a w' ⟨v152, ha, Q_HO_6, Q_HB, Q_HO153⟩ hb_ hon hoff
                                refine ⟨_, rfl, fun K hK => ?_⟩
                                have e38 : a.tmps[38]? = some (.int .u32 t140) := by rw [ha]; exact putSel_on (e := (1, 38, .int .u32 t140)) 0 rfl rfl (hon 1 (by kernel_rfl)) rfl
                                have e51 : a.tmps[51]? = some (.int .u32 (Go.bits .xor .u32 (Go.bits .xor .u32 t145 t150) t154)) := by rw [ha]; exact putSel_on (e := (14, 51, .int .u32 (Go.bits .xor .u32 (Go.bits .xor .u32 t145 t150) t154))) 8 rfl rfl (hon 14 (by kernel_rfl)) rfl
                                replace ha := Aside0.mk ha
                                have HO_6 := Aside0.mk Q_HO_6
                                have HB := Aside0.mk Q_HB
                                have HO153 := Aside0.mk (Q_HO153 (hon 12 (by kernel_rfl)))
                                refine value_ (w1 := w') (v := .bool (t140 == (Go.bits .xor .u32 (Go.bits .xor .u32 t145 t150) t154))) (by first | rfl | (simp [Region.wanted, yielded, e38, e51, *]; done)) rfl ?_ ?_
                                · go_simp
                                  (try simp only [i64_w])
                                  try rfl
                                refine hK.out _ _ ⟨v152, (by rw [ha.out]; exact putSel_upk 9 hb_ rfl rfl rfl), Q_HO_6, Q_HB, Q_HO153⟩
                              refine steps_cons ?_ ?_
                              · rintro b a w' ⟨v152, ha, Q_HO_6, Q_HB, Q_HO153⟩ hb_ hon hoff
                                refine ⟨_, rfl, fun K hK => ?_⟩
                                have e52 : a.tmps[52]? = some (.bool (t140 == (Go.bits .xor .u32 (Go.bits .xor .u32 t145 t150) t154))) := by rw [ha]; exact putSel_on (e := (15, 52, .bool (t140 == (Go.bits .xor .u32 (Go.bits .xor .u32 t145 t150) t154)))) 9 rfl rfl (hon 15 (by kernel_rfl)) rfl
                                replace ha := Aside0.mk ha
                                have HO_6 := Aside0.mk Q_HO_6
                                have HB := Aside0.mk Q_HB
                                have HO153 := Aside0.mk (Q_HO153 (hon 12 (by kernel_rfl)))
                                refine value_ (w1 := w') (v := .bool (t140 == (Go.bits .xor .u32 (Go.bits .xor .u32 t145 t150) t154))) (by first | rfl | (simp [Region.wanted, yielded, e52, *]; done)) rfl ?_ ?_
                                · go_simp
                                  (try simp only [i64_w])
                                  try rfl
                                refine hK.out _ _ ⟨v152, (by rw [ha.out]; exact putSel_upk 10 hb_ rfl rfl rfl), Q_HO_6, Q_HB, Q_HO153⟩
                              refine steps_cons ?_ ?_
                              · rintro b a w' ⟨v152, ha, Q_HO_6, Q_HB, Q_HO153⟩ hb_ hon hoff
                                refine ⟨_, rfl, fun K hK => ?_⟩
                                have e53 : a.tmps[53]? = some (.bool (t140 == (Go.bits .xor .u32 (Go.bits .xor .u32 t145 t150) t154))) := by rw [ha]; exact putSel_on (e := (16, 53, .bool (t140 == (Go.bits .xor .u32 (Go.bits .xor .u32 t145 t150) t154)))) 10 rfl rfl (hon 16 (by kernel_rfl)) rfl
                                replace ha := Aside0.mk ha
                                have HO_6 := Aside0.mk Q_HO_6
                                have HB := Aside0.mk Q_HB
                                have HO153 := Aside0.mk (Q_HO153 (hon 12 (by kernel_rfl)))
                                refine off_ (wanted_off rfl rfl rfl (e53.trans (by first | rfl | (simp [*]; done)))) ?_
                                refine hK.out _ _ ⟨v152, (by rw [ha.out]; exact putSel_upk 11 hb_ rfl rfl rfl), Q_HO_6, Q_HB, Q_HO153⟩
                              refine steps_cons ?_ ?_
                              · rintro b a w' ⟨v152, ha, Q_HO_6, Q_HB, Q_HO153⟩ hb_ hon hoff
                                refine ⟨_, rfl, fun K hK => ?_⟩
                                have e53 : a.tmps[53]? = some (.bool (t140 == (Go.bits .xor .u32 (Go.bits .xor .u32 t145 t150) t154))) := by rw [ha]; exact putSel_on (e := (16, 53, .bool (t140 == (Go.bits .xor .u32 (Go.bits .xor .u32 t145 t150) t154)))) 10 rfl rfl (hon 16 (by kernel_rfl)) rfl
                                replace ha := Aside0.mk ha
                                have HO_6 := Aside0.mk Q_HO_6
                                have HB := Aside0.mk Q_HB
                                have HO153 := Aside0.mk (Q_HO153 (hon 12 (by kernel_rfl)))
                                refine off_ (wanted_off rfl rfl rfl (e53.trans (by first | rfl | (simp [*]; done)))) ?_
                                refine hK.out _ _ ⟨v152, (by rw [ha.out]; exact putSel_upk 12 hb_ rfl rfl rfl), Q_HO_6, Q_HB, Q_HO153⟩
                              refine steps_cons ?_ ?_
                              · rintro b a w' ⟨v152, ha, Q_HO_6, Q_HB, Q_HO153⟩ hb_ hon hoff
                                refine ⟨_, rfl, fun K hK => ?_⟩
                                have e53 : a.tmps[53]? = some (.bool (t140 == (Go.bits .xor .u32 (Go.bits .xor .u32 t145 t150) t154))) := by rw [ha]; exact putSel_on (e := (16, 53, .bool (t140 == (Go.bits .xor .u32 (Go.bits .xor .u32 t145 t150) t154)))) 10 rfl rfl (hon 16 (by kernel_rfl)) rfl
                                replace ha := Aside0.mk ha
                                have HO_6 := Aside0.mk Q_HO_6
                                have HB := Aside0.mk Q_HB
                                have HO153 := Aside0.mk (Q_HO153 (hon 12 (by kernel_rfl)))
                                refine off_ (wanted_off rfl rfl rfl (e53.trans (by first | rfl | (simp [*]; done)))) ?_
                                refine hK.out _ _ ⟨v152, (by rw [ha.out]; exact putSel_upk 13 hb_ rfl rfl rfl), Q_HO_6, Q_HB, Q_HO153⟩
                              refine steps_cons ?_ ?_
                              · rintro b a w' ⟨v152, ha, Q_HO_6, Q_HB, Q_HO153⟩ hb_ hon hoff
                                refine ⟨_, rfl, fun K hK => ?_⟩
                                have e53 : a.tmps[53]? = some (.bool (t140 == (Go.bits .xor .u32 (Go.bits .xor .u32 t145 t150) t154))) := by rw [ha]; exact putSel_on (e := (16, 53, .bool (t140 == (Go.bits .xor .u32 (Go.bits .xor .u32 t145 t150) t154)))) 10 rfl rfl (hon 16 (by kernel_rfl)) rfl
                                replace ha := Aside0.mk ha
                                have HO_6 := Aside0.mk Q_HO_6
                                have HB := Aside0.mk Q_HB
                                have HO153 := Aside0.mk (Q_HO153 (hon 12 (by kernel_rfl)))
                                refine off_ (wanted_off rfl rfl rfl (e53.trans (by first | rfl | (simp [*]; done)))) ?_
                                refine hK.out _ _ ⟨v152, (by rw [ha.out]; exact putSel_upk 14 hb_ rfl rfl rfl), Q_HO_6, Q_HB, Q_HO153⟩
                              refine steps_cons ?_ ?_
                              · rintro b a w' ⟨v152, ha, Q_HO_6, Q_HB, Q_HO153⟩ hb_ hon hoff
                                refine ⟨_, rfl, fun K hK => ?_⟩
                                have e53 : a.tmps[53]? = some (.bool (t140 == (Go.bits .xor .u32 (Go.bits .xor .u32 t145 t150) t154))) := by rw [ha]; exact putSel_on (e := (16, 53, .bool (t140 == (Go.bits .xor .u32 (Go.bits .xor .u32 t145 t150) t154)))) 10 rfl rfl (hon 16 (by kernel_rfl)) rfl
                                replace ha := Aside0.mk ha
                                have HO_6 := Aside0.mk Q_HO_6
                                have HB := Aside0.mk Q_HB
                                have HO153 := Aside0.mk (Q_HO153 (hon 12 (by kernel_rfl)))
                                refine off_ (wanted_off rfl rfl rfl (e53.trans (by first | rfl | (simp [*]; done)))) ?_
                                refine hK.out _ _ ⟨v152, (by rw [ha.out]; exact putSel_upk 15 hb_ rfl rfl rfl), Q_HO_6, Q_HB, Q_HO153⟩
                              refine steps_cons ?_ ?_
                              · rintro b a w' ⟨v152, ha, Q_HO_6, Q_HB, Q_HO153⟩ hb_ hon hoff
                                refine ⟨_, rfl, fun K hK => ?_⟩
                                have e53 : a.tmps[53]? = some (.bool (t140 == (Go.bits .xor .u32 (Go.bits .xor .u32 t145 t150) t154))) := by rw [ha]; exact putSel_on (e := (16, 53, .bool (t140 == (Go.bits .xor .u32 (Go.bits .xor .u32 t145 t150) t154)))) 10 rfl rfl (hon 16 (by kernel_rfl)) rfl
                                have e58 : a.tmps[58]? = some (undef) := by rw [ha]; exact putSel_on (e := (21, 58, undef)) 15 rfl rfl (hon 21 (by kernel_rfl)) rfl
                                replace ha := Aside0.mk ha
                                have HO_6 := Aside0.mk Q_HO_6
                                have HB := Aside0.mk Q_HB
                                have HO153 := Aside0.mk (Q_HO153 (hon 12 (by kernel_rfl)))
                                refine value_ (w1 := w') (v := .bool false) (by first | rfl | (simp [Region.wanted, yielded, e53, e58, *]; done)) rfl ?_ ?_
                                · go_simp
                                  (try simp only [i64_w])
                                  try rfl
                                refine hK.out _ _ ⟨v152, (by rw [ha.out]; exact putSel_upk 16 hb_ rfl rfl rfl), Q_HO_6, Q_HB, Q_HO153⟩
                              refine steps_cons ?_ ?_
                              · rintro b a w' ⟨v152, ha, Q_HO_6, Q_HB, Q_HO153⟩ hb_ hon hoff
                                refine ⟨_, rfl, fun K hK => ?_⟩
                                have e59 : a.tmps[59]? = some (.bool false) := by rw [ha]; exact putSel_on (e := (22, 59, .bool false)) 16 rfl rfl (hon 22 (by kernel_rfl)) rfl
                                replace ha := Aside0.mk ha
                                have HO_6 := Aside0.mk Q_HO_6
                                have HB := Aside0.mk Q_HB
                                have HO153 := Aside0.mk (Q_HO153 (hon 12 (by kernel_rfl)))
                                refine value_ (w1 := w') (v := .bool false) (by first | rfl | (simp [Region.wanted, yielded, e59, *]; done)) rfl ?_ ?_
                                · go_simp
                                  (try simp only [i64_w])
                                  try rfl
                                refine hK.out _ _ ⟨v152, (by rw [ha.out]; exact putSel_upk 17 hb_ rfl rfl rfl), Q_HO_6, Q_HB, Q_HO153⟩
                              refine steps_cons ?_ ?_
                              · rintro b a w' ⟨v152, ha, Q_HO_6, Q_HB, Q_HO153⟩ hb_ hon hoff
                                refine ⟨_, rfl, fun K hK => ?_⟩
                                have e60 : a.tmps[60]? = some (.bool false) := by rw [ha]; exact putSel_on (e := (23, 60, .bool false)) 17 rfl rfl (hon 23 (by kernel_rfl)) rfl
                                replace ha := Aside0.mk ha
                                have HO_6 := Aside0.mk Q_HO_6
                                have HB := Aside0.mk Q_HB
                                have HO153 := Aside0.mk (Q_HO153 (hon 12 (by kernel_rfl)))
                                refine off_ (wanted_off rfl rfl rfl (e60.trans (by first | rfl | (simp [*]; done)))) ?_
                                refine hK.out _ _ ⟨v152, (by rw [ha.out]; exact putSel_upk 18 hb_ rfl rfl rfl), Q_HO_6, Q_HB, Q_HO153⟩
                              refine steps_cons ?_ ?_
                              · rintro b a w' ⟨v152, ha, Q_HO_6, Q_HB, Q_HO153⟩ hb_ hon hoff
                                refine ⟨_, rfl, fun K hK => ?_⟩
                                have e60 : a.tmps[60]? = some (.bool false) := by rw [ha]; exact putSel_on (e := (23, 60, .bool false)) 17 rfl rfl (hon 23 (by kernel_rfl)) rfl
                                have e61 : a.tmps[61]? = some (undef) := by rw [ha]; exact putSel_on (e := (24, 61, undef)) 18 rfl rfl (hon 24 (by kernel_rfl)) rfl
                                replace ha := Aside0.mk ha
                                have HO_6 := Aside0.mk Q_HO_6
                                have HB := Aside0.mk Q_HB
                                have HO153 := Aside0.mk (Q_HO153 (hon 12 (by kernel_rfl)))
                                refine value_ (w1 := w') (v := .bool false) (by first | rfl | (simp [Region.wanted, yielded, e60, e61, *]; done)) rfl ?_ ?_
                                · go_simp
                                  (try simp only [i64_w])
                                  try rfl
                                refine hK.out _ _ ⟨v152, (by rw [ha.out]; exact putSel_upk 19 hb_ rfl rfl rfl), Q_HO_6, Q_HB, Q_HO153⟩
                              refine steps_cons ?_ ?_
                              · rintro b a w' ⟨v152, ha, Q_HO_6, Q_HB, Q_HO153⟩ hb_ hon hoff
                                refine ⟨_, rfl, fun K hK => ?_⟩
                                have e62 : a.tmps[62]? = some (.bool false) := by rw [ha]; exact putSel_on (e := (25, 62, .bool false)) 19 rfl rfl (hon 25 (by kernel_rfl)) rfl
                                replace ha := Aside0.mk ha
                                have HO_6 := Aside0.mk Q_HO_6
                                have HB := Aside0.mk Q_HB
                                have HO153 := Aside0.mk (Q_HO153 (hon 12 (by kernel_rfl)))
                                refine value_ (w1 := w') (v := .bool false) (by first | rfl | (simp [Region.wanted, yielded, e62, *]; done)) rfl ?_ ?_
                                · go_simp
                                  (try simp only [i64_w])
                                  try rfl
                                refine hK.out _ _ ⟨v152, (by rw [ha.out]; exact putSel_upk 20 hb_ rfl rfl rfl), Q_HO_6, Q_HB, Q_HO153⟩
                              exact steps_nil
                            rintro b a w84 hall ⟨v152, ha, Q_HO_6, Q_HB, Q_HO153⟩
                            clear HB HO_6
                            have hb1_ := hall 1 (by kernel_rfl)
                            have hb4_ := hall 4 (by kernel_rfl)
                            have hb5_ := hall 5 (by kernel_rfl)
                            have hb8_ := hall 8 (by kernel_rfl)
                            have hb9_ := hall 9 (by kernel_rfl)
                            have hb10_ := hall 10 (by kernel_rfl)
                            have hb12_ := hall 12 (by kernel_rfl)
                            have hb13_ := hall 13 (by kernel_rfl)
                            have hb14_ := hall 14 (by kernel_rfl)
                            have hb15_ := hall 15 (by kernel_rfl)
                            have hb16_ := hall 16 (by kernel_rfl)
                            have hb17_ := hall 17 (by kernel_rfl)
                            have hb18_ := hall 18 (by kernel_rfl)
                            have hb19_ := hall 19 (by kernel_rfl)
                            have hb20_ := hall 20 (by kernel_rfl)
                            have hb21_ := hall 21 (by kernel_rfl)
                            have hb22_ := hall 22 (by kernel_rfl)
                            have hb23_ := hall 23 (by kernel_rfl)
                            have hb24_ := hall 24 (by kernel_rfl)
                            have hb25_ := hall 25 (by kernel_rfl)
                            have hb26_ := hall 26 (by kernel_rfl)
                            subst ha
                            simp only [putSel, hb1_, hb4_, hb5_, hb8_, hb9_, hb10_, hb12_, hb13_, hb14_, hb15_, hb16_, hb17_, hb18_, hb19_, hb20_, hb21_, hb22_, hb23_, hb24_, hb25_, hb26_, if_true, Act.put, List.setIfInBounds_toArray, List.set_cons_zero, List.set_cons_succ]
                            have HO_6 := Aside0.mk Q_HO_6
                            clear Q_HO_6
                            have HB := Aside0.mk Q_HB
                            clear Q_HB
                            have HO153 := Aside0.mk (Q_HO153 hb12_)
                            clear Q_HO153
                            clear hall hb1_ hb4_ hb5_ hb8_ hb9_ hb10_ hb12_ hb13_ hb14_ hb15_ hb16_ hb17_ hb18_ hb19_ hb20_ hb21_ hb22_ hb23_ hb24_ hb25_ hb26_
                            try go_wp2
                            go_ret
                            exact ⟨by first | rfl | (simp [errW_none, errW_some] <;> rfl) | (simp [*, errW_none, errW_some] <;> rfl), by repeat (first | (with_reducible first | exact HB.out | apply below_alloc | apply pw_below_drewN | apply below_drew1) | exact HB.out)⟩
                        · rw [if_neg c25] at H
                          exact absurd H (by simp)
                      · rw [if_neg c23] at H
                        exact absurd H (by simp)
                    · rw [if_neg c20] at H
                      exact absurd H (by simp)
                  · rw [if_neg c19] at H
                    exact absurd H (by simp)
          · rw [if_neg c7] at H
            exact absurd H (by simp)
        · rw [if_neg c6] at H
          exact absurd H (by simp)


end Go.Proofs.Ytlhdfdedhdcmiaa.QBits
