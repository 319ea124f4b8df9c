/- A lemma file: Put, Unary, Rice, Grow, Align and Bytes of the reference's writer of bits, as functions of lists of bits. No condition. -/
import Derived.Test.YtlhdfdedhdcmiaaPX
import Derived.Test.YtlhdfdedhdcmiaaQBitsx50
namespace Go.Proofs.Ytlhdfdedhdcmiaa.QBits
open Go.RowKit Go.Proofs.YtlhdfdedhdcmiaaW.PrintWords Go.Proofs.YtlhdfdedhdcmiaaW.PrintLast Go.Proofs.YtlhdfdedhdcmiaaW.PrintMore Go.Proofs.YtlhdfdedhdcmiaaV
set_option linter.unusedVariables false
set_option linter.unusedSimpArgs false
theorem xroom_calls {w : World} {base g : Nat} {F : Nat → Prop} {B : List Bool} (h : IsX w base F g B) (hl : B.length ≤ 67108864) (n : Int) (h0 : -4611686018427387904 ≤ n) (h1 : n ≤ 4611686018427387904) :
    Calls Try.prog 88 #[.pointer (some ⟨g, 0, none⟩), .int .i64 n] w fun e w' => e = .returned (.bool (decide ((B.length : Int) + n ≤ 8388608))) ∧ ∃ m, w' = w.drewN m := by
  obtain ⟨v, h, rfl⟩ := h
  obtain ⟨A, c, rfl⟩ := own_slice h.row
  have cg0 : w.cell? ⟨g, 0, none⟩ = some (.slice A B.length c) := (blk_cell h.hg 0).trans rfl
  have e1 : IntKind.i64.wrap (8388608 - (B.length : Int)) = 8388608 - (B.length : Int) := by rw [IntKind.wrap_i64]; omega
  have e2 : wrap64 (8388608 - (B.length : Int)) = 8388608 - (B.length : Int) := by unfold wrap64; omega
  have e3 : decide (n ≤ 8388608 - (B.length : Int)) = decide ((B.length : Int) + n ≤ 8388608) := by congr 1; apply propext; omega
  clear h hl h0 h1
  go_enter Try.func88, Try.ntmps88
  go_wp2
  go_ret
  exact ⟨by rw [← e3]; first | rfl | simp [e1, e2], 0, rfl⟩
theorem xput_calls {w : World} {base g : Nat} {F : Nat → Prop} {B : List Bool} (h : IsX w base F g B) (hb : base ≤ w.heap.size) (hl : B.length ≤ 8388608) (v n : Int) (hv1 : v ≤ 9223372036854775807) :
    Calls Try.prog 74 #[.pointer (some ⟨g, 0, none⟩), (.int .i64 v), (.int .i64 n)] w fun e w' => e = .returned (.int .i64 (putF v n B).1) ∧ ∃ F', IsX w' base F' g (putF v n B).2 ∧ Moved w w' F F' := by
  have H := Aside0.mk h
  have HB := Aside0.mk hb
  have HL := Aside0.mk hl
  have HV1 := Aside0.mk hv1
  clear h hb hl hv1
  unfold putF
  by_cases c1 : n < 0
  · rw [if_pos c1]
    have b1 : decide (n < 0) = true := decide_eq_true c1
    clear c1
    go_enter Try.func74, Try.ntmps74
    go_wp2_with fail
    go_ret
    exact ⟨rfl, F, H.out, Moved.refl _ _⟩
  rw [if_neg c1]
  obtain ⟨m, rfl⟩ := Int.eq_ofNat_of_zero_le (show 0 ≤ n by omega)
  have b1 : decide ((m : Int) < 0) = false := decide_eq_false c1
  clear c1
  by_cases c2 : 32 < (m : Int)
  · rw [if_pos c2]
    have b2 : decide (32 < (m : Int)) = true := decide_eq_true c2
    have b3 : decide (32 < m) = true := decide_eq_true (by omega)
    clear c2
    go_enter Try.func74, Try.ntmps74
    go_wp2_with fail
    go_ret
    exact ⟨rfl, F, H.out, Moved.refl _ _⟩
  rw [if_neg c2]
  have HM : Aside0 (m ≤ 32) := ⟨by omega⟩
  have b2 : decide (32 < (m : Int)) = false := decide_eq_false c2
  have b3 : decide (32 < m) = false := decide_eq_false (by omega)
  clear c2
  by_cases c3 : v < 0
  · rw [if_pos c3]
    have b4 : decide (v < 0) = true := decide_eq_true c3
    clear c3
    go_enter Try.func74, Try.ntmps74
    go_wp2_with fail
    go_ret
    exact ⟨rfl, F, H.out, Moved.refl _ _⟩
  rw [if_neg c3, Int.toNat_natCast]
  have HV0 : Aside0 (0 ≤ v) := ⟨by omega⟩
  have b4 : decide (v < 0) = false := decide_eq_false c3
  clear c3
  have eu : IntKind.u64.wrap (m : Int) = (m : Int) := by have := HM.out; rw [IntKind.wrap_u64]; omega
  have hp : (2 : Nat) ^ m ≤ 4294967296 := Nat.pow_le_pow_right (n := 2) (by omega) HM.out
  obtain ⟨z, hz⟩ : ∃ z : Nat, z = 2 ^ m := ⟨_, rfl⟩
  have hzI : (2 : Int) ^ m = (z : Int) := by rw [hz]; norm_cast
  have sh : IntKind.i64.wrap (2 ^ min m 64) = (z : Int) := by have := HM.out; rw [Nat.min_eq_left (by omega), hzI, IntKind.wrap_i64]; omega
  have sh2 : wrap64 (2 ^ min m 64) = (z : Int) := by have := HM.out; rw [Nat.min_eq_left (by omega), hzI]; unfold wrap64; omega
  have hz0 : 0 < z := by rw [hz]; exact Nat.two_pow_pos m
  have hd : 0 < v / 2 ^ m ↔ (z : Int) ≤ v := by
    rw [hzI]
    constructor
    · intro h; exact Int.not_lt.mp (fun hlt => by rw [Int.ediv_eq_zero_of_lt HV0.out hlt] at h; omega)
    · intro h; exact Int.lt_of_lt_of_le (show (0 : Int) < 1 by omega) (Int.le_ediv_of_mul_le (by omega) (by omega))
  by_cases c4 : 0 < v / 2 ^ m
  · rw [if_pos c4]
    have b5 : decide ((z : Int) ≤ v) = true := decide_eq_true (hd.mp c4)
    clear c4 hd hz hzI hp hz0
    go_enter Try.func74, Try.ntmps74
    go_wp2_with fail
    go_ret
    exact ⟨rfl, F, H.out, Moved.refl _ _⟩
  rw [if_neg c4]
  have b5 : decide ((z : Int) ≤ v) = false := decide_eq_false (fun h => c4 (hd.mpr h))
  clear c4 hd hz hzI hp hz0
  by_cases c6 : (B.length : Int) + (m : Int) ≤ 8388608
  · rw [if_pos c6]
    have HR := Aside0.mk c6
    clear c6
    go_enter Try.func74, Try.ntmps74
    go_wp2_with fail
    refine (xroom_calls H.out (by have := HL.out; omega) ((m : Int)) (by omega) (by have := HM.out; omega)).mono ?_
    rintro e w2 ⟨rfl, m2, rfl⟩
    rw [show decide ((B.length : Int) + ((m : Int)) ≤ 8388608) = true from decide_eq_true (by have := HR.out; omega)]
    go_wp2_with fail
    refine (low_calls (H.out.drewN m2) HB.out v m HV0.out HV1.out (by have := HM.out; omega) (by have := HL.out; have := HM.out; omega)).mono ?_
    rintro e w3 ⟨rfl, F2, I2, M2⟩
    have HI2 := Aside0.mk I2
    have HM2 := Aside0.mk M2
    clear I2 M2
    go_wp2_with fail
    go_ret
    exact ⟨rfl, F2, HI2.out, ((Moved.refl w F).drewN m2).trans HM2.out⟩
  · rw [if_neg c6]
    have HR := Aside0.mk c6
    clear c6
    go_enter Try.func74, Try.ntmps74
    go_wp2_with fail
    refine (xroom_calls H.out (by have := HL.out; omega) ((m : Int)) (by omega) (by have := HM.out; omega)).mono ?_
    rintro e w2 ⟨rfl, m2, rfl⟩
    rw [show decide ((B.length : Int) + ((m : Int)) ≤ 8388608) = false from decide_eq_false (by have := HR.out; omega)]
    go_wp2_with fail
    go_ret
    exact ⟨rfl, F, H.out.drewN _, (Moved.refl _ _).drewN _⟩
theorem xunary_calls {w : World} {base g : Nat} {F : Nat → Prop} {B : List Bool} (h : IsX w base F g B) (hb : base ≤ w.heap.size) (hl : B.length ≤ 8388608) (n : Int) :
    Calls Try.prog 75 #[.pointer (some ⟨g, 0, none⟩), (.int .i64 n)] w fun e w' => e = .returned (.int .i64 (unaryF n B).1) ∧ ∃ F', IsX w' base F' g (unaryF n B).2 ∧ Moved w w' F F' := by
  have H := Aside0.mk h
  have HB := Aside0.mk hb
  have HL := Aside0.mk hl
  clear h hb hl
  unfold unaryF
  by_cases c1 : n < 0
  · rw [if_pos c1]
    have b1 : decide (n < 0) = true := decide_eq_true c1
    clear c1
    go_enter Try.func75, Try.ntmps75
    go_wp2_with fail
    go_ret
    exact ⟨rfl, F, H.out, Moved.refl _ _⟩
  rw [if_neg c1]
  obtain ⟨m, rfl⟩ := Int.eq_ofNat_of_zero_le (show 0 ≤ n by omega)
  have b1 : decide ((m : Int) < 0) = false := decide_eq_false c1
  clear c1
  by_cases c2 : 65535 < (m : Int)
  · rw [if_pos c2]
    have b2 : decide (65535 < (m : Int)) = true := decide_eq_true c2
    have b3 : decide (65535 < m) = true := decide_eq_true (by omega)
    clear c2
    go_enter Try.func75, Try.ntmps75
    go_wp2_with fail
    go_ret
    exact ⟨rfl, F, H.out, Moved.refl _ _⟩
  rw [if_neg c2, Int.toNat_natCast]
  have HM : Aside0 (m ≤ 65535) := ⟨by omega⟩
  have b2 : decide (65535 < (m : Int)) = false := decide_eq_false c2
  have b3 : decide (65535 < m) = false := decide_eq_false (by omega)
  have e1 : wrap64 ((m : Int) + 1) = (m : Int) + 1 := by unfold wrap64; omega
  clear c2
  by_cases c6 : (B.length : Int) + ((m : Int) + 1) ≤ 8388608
  · rw [if_pos c6]
    have HR := Aside0.mk c6
    clear c6
    go_enter Try.func75, Try.ntmps75
    go_wp2_with fail
    try rw [e1]
    refine (xroom_calls H.out (by have := HL.out; omega) ((m : Int) + 1) (by omega) (by have := HM.out; omega)).mono ?_
    rintro e w2 ⟨rfl, m2, rfl⟩
    rw [show decide ((B.length : Int) + ((m : Int) + 1) ≤ 8388608) = true from decide_eq_true (by have := HR.out; omega)]
    go_wp2_with fail
    refine (ones_calls (H.out.drewN m2) HB.out m (by have := HM.out; omega) (by have := HL.out; have := HM.out; omega)).mono ?_
    rintro e w3 ⟨rfl, F2, I2, M2⟩
    have HI2 := Aside0.mk I2
    have HM2 := Aside0.mk M2
    clear I2 M2
    go_wp2_with fail
    go_ret
    exact ⟨rfl, F2, HI2.out, ((Moved.refl w F).drewN m2).trans HM2.out⟩
  · rw [if_neg c6]
    have HR := Aside0.mk c6
    clear c6
    go_enter Try.func75, Try.ntmps75
    go_wp2_with fail
    try rw [e1]
    refine (xroom_calls H.out (by have := HL.out; omega) ((m : Int) + 1) (by omega) (by have := HM.out; omega)).mono ?_
    rintro e w2 ⟨rfl, m2, rfl⟩
    rw [show decide ((B.length : Int) + ((m : Int) + 1) ≤ 8388608) = false from decide_eq_false (by have := HR.out; omega)]
    go_wp2_with fail
    go_ret
    exact ⟨rfl, F, H.out.drewN _, (Moved.refl _ _).drewN _⟩
theorem xrice_calls {w : World} {base g : Nat} {F : Nat → Prop} {B : List Bool} (h : IsX w base F g B) (hb : base ≤ w.heap.size) (hl : B.length ≤ 8388608) (v k : Int) (hv1 : v ≤ 9223372036854775807) :
    Calls Try.prog 76 #[.pointer (some ⟨g, 0, none⟩), (.int .i64 v), (.int .i64 k)] w fun e w' => e = .returned (.int .i64 (riceF v k B).1) ∧ ∃ F', IsX w' base F' g (riceF v k B).2 ∧ Moved w w' F F' := by
  have H := Aside0.mk h
  have HB := Aside0.mk hb
  have HL := Aside0.mk hl
  have HV1 := Aside0.mk hv1
  clear h hb hl hv1
  unfold riceF
  by_cases c1 : k < 0
  · rw [if_pos c1]
    have b1 : decide (k < 0) = true := decide_eq_true c1
    clear c1
    go_enter Try.func76, Try.ntmps76
    go_wp2_with fail
    go_ret
    exact ⟨rfl, F, H.out, Moved.refl _ _⟩
  rw [if_neg c1]
  obtain ⟨m, rfl⟩ := Int.eq_ofNat_of_zero_le (show 0 ≤ k by omega)
  have b1 : decide ((m : Int) < 0) = false := decide_eq_false c1
  clear c1
  by_cases c2 : 24 < (m : Int)
  · rw [if_pos c2]
    have b2 : decide (24 < (m : Int)) = true := decide_eq_true c2
    have b3 : decide (24 < m) = true := decide_eq_true (by omega)
    clear c2
    go_enter Try.func76, Try.ntmps76
    go_wp2_with fail
    go_ret
    exact ⟨rfl, F, H.out, Moved.refl _ _⟩
  rw [if_neg c2]
  have HM : Aside0 (m ≤ 24) := ⟨by omega⟩
  have b2 : decide (24 < (m : Int)) = false := decide_eq_false c2
  have b3 : decide (24 < m) = false := decide_eq_false (by omega)
  clear c2
  by_cases c3 : v < 0
  · rw [if_pos c3]
    have b4 : decide (v < 0) = true := decide_eq_true c3
    clear c3
    go_enter Try.func76, Try.ntmps76
    go_wp2_with fail
    go_ret
    exact ⟨rfl, F, H.out, Moved.refl _ _⟩
  rw [if_neg c3, Int.toNat_natCast]
  have HV0 : Aside0 (0 ≤ v) := ⟨by omega⟩
  have b4 : decide (v < 0) = false := decide_eq_false c3
  clear c3
  have eu : IntKind.u64.wrap (m : Int) = (m : Int) := by have := HM.out; rw [IntKind.wrap_u64]; omega
  have sh : v / 2 ^ min m 64 = v / 2 ^ m := by have := HM.out; rw [Nat.min_eq_left (by omega)]
  obtain ⟨z, hz⟩ : ∃ z : Nat, v / 2 ^ m = (z : Int) := Int.eq_ofNat_of_zero_le (Int.ediv_nonneg HV0.out (Int.pow_nonneg (by omega)))
  rw [hz] at sh ⊢
  by_cases c4 : 65535 < (z : Int)
  · rw [if_pos c4]
    have b5 : decide (65535 < (z : Int)) = true := decide_eq_true c4
    have b6 : decide (65535 < z) = true := decide_eq_true (by omega)
    clear c4
    go_enter Try.func76, Try.ntmps76
    go_wp2_with fail
    go_ret
    exact ⟨rfl, F, H.out, Moved.refl _ _⟩
  rw [if_neg c4, Int.toNat_natCast]
  have HZ : Aside0 (z ≤ 65535) := ⟨by omega⟩
  have b5 : decide (65535 < (z : Int)) = false := decide_eq_false c4
  have b6 : decide (65535 < z) = false := decide_eq_false (by omega)
  have e1 : wrap64 ((z : Int) + 1) = (z : Int) + 1 := by unfold wrap64; omega
  have e2 : wrap64 ((z : Int) + 1 + (m : Int)) = (z : Int) + 1 + (m : Int) := by have := HM.out; unfold wrap64; omega
  clear c4
  by_cases c6 : (B.length : Int) + ((z : Int) + 1 + (m : Int)) ≤ 8388608
  · rw [if_pos c6]
    have HR := Aside0.mk c6
    clear c6
    go_enter Try.func76, Try.ntmps76
    go_wp2_with fail
    try rw [e1, e2]
    refine (xroom_calls H.out (by have := HL.out; omega) ((z : Int) + 1 + (m : Int)) (by omega) (by have := HM.out; have := HZ.out; omega)).mono ?_
    rintro e w2 ⟨rfl, m2, rfl⟩
    rw [show decide ((B.length : Int) + ((z : Int) + 1 + (m : Int)) ≤ 8388608) = true from decide_eq_true (by have := HR.out; omega)]
    go_wp2_with fail
    refine (ones_calls (H.out.drewN m2) HB.out z (by have := HZ.out; omega) (by have := HL.out; have := HZ.out; omega)).mono ?_
    rintro e w3 ⟨rfl, F2, I2, M2⟩
    have HI2 := Aside0.mk I2
    have HM2 := Aside0.mk M2
    clear I2 M2
    go_wp2_with fail
    refine (low_calls HI2.out (Nat.le_trans HB.out HM2.out.size) v m HV0.out HV1.out (by have := HM.out; omega) (by have := HR.out; simp [zerosB]; omega)).mono ?_
    rintro e w4 ⟨rfl, F3, I3, M3⟩
    have HI3 := Aside0.mk I3
    have HM3 := Aside0.mk M3
    clear I3 M3
    go_wp2_with fail
    go_ret
    exact ⟨rfl, F3, HI3.out, (((Moved.refl w F).drewN m2).trans HM2.out).trans HM3.out⟩
  · rw [if_neg c6]
    have HR := Aside0.mk c6
    clear c6
    go_enter Try.func76, Try.ntmps76
    go_wp2_with fail
    try rw [e1, e2]
    refine (xroom_calls H.out (by have := HL.out; omega) ((z : Int) + 1 + (m : Int)) (by omega) (by have := HM.out; have := HZ.out; omega)).mono ?_
    rintro e w2 ⟨rfl, m2, rfl⟩
    rw [show decide ((B.length : Int) + ((z : Int) + 1 + (m : Int)) ≤ 8388608) = false from decide_eq_false (by have := HR.out; omega)]
    go_wp2_with fail
    go_ret
    exact ⟨rfl, F, H.out.drewN _, (Moved.refl _ _).drewN _⟩
theorem length_len : ∀ (f : Nat) (x : Nat) (n : Nat), x < 2 ^ f → n + f < 1000 → f ≤ 64 → dioramaref01_Length.l0 (f + 1) (x : Int) (n : Int) = some ((n + Lib.bitLenAux f x : Nat) : Int)
  | 0, x, n, h, hn, _ => by
    obtain rfl : x = 0 := by simp at h; omega
    simp [dioramaref01_Length.l0, Lib.bitLenAux]
  | f + 1, x, n, h, hn, hf => by
    rw [dioramaref01_Length.l0]
    by_cases h0 : x = 0
    · subst h0
      simp [Lib.bitLenAux]
    · have e1 : wrap64 (Int.tdiv (x : Int) 2) = ((x / 2 : Nat) : Int) := by
        have h1 : x < 2 ^ 64 := Nat.lt_of_lt_of_le h (Nat.pow_le_pow_right (by omega) hf)
        clear h
        rw [Int.tdiv_eq_ediv_of_nonneg (by omega)]
        unfold wrap64
        omega
      have e2 : wrap64 ((n : Int) + 1) = ((n + 1 : Nat) : Int) := by unfold wrap64; omega
      rw [if_pos (by omega), e1, e2, length_len f (x / 2) (n + 1) (by rw [Nat.pow_succ] at h; omega) (by omega) (by omega)]
      simp only [Lib.bitLenAux, if_neg h0]
      congr 2
      omega
theorem xgrow_calls {w : World} {base g : Nat} {F : Nat → Prop} {B : List Bool} (h : IsX w base F g B) (hb : base ≤ w.heap.size) (hl : B.length ≤ 8388608) (v : Int) :
    Calls Try.prog 77 #[.pointer (some ⟨g, 0, none⟩), (.int .i64 v)] w fun e w' => e = .returned (.int .i64 (growF v B).1) ∧ ∃ F', IsX w' base F' g (growF v B).2 ∧ Moved w w' F F' := by
  have H := Aside0.mk h
  have HB := Aside0.mk hb
  have HL := Aside0.mk hl
  clear h hb hl
  unfold growF
  by_cases c1 : v < 0
  · rw [if_pos c1]
    have b1 : decide (v < 0) = true := decide_eq_true c1
    clear c1
    go_enter Try.func77, Try.ntmps77
    go_wp2_with fail
    go_ret
    exact ⟨rfl, F, H.out, Moved.refl _ _⟩
  rw [if_neg c1]
  have HV0 : Aside0 (0 ≤ v) := ⟨by omega⟩
  have b1 : decide (v < 0) = false := decide_eq_false c1
  clear c1
  by_cases c2 : 4294967294 < v
  · rw [if_pos c2]
    have b2 : decide (4294967294 < v) = true := decide_eq_true c2
    clear c2
    go_enter Try.func77, Try.ntmps77
    go_wp2_with fail
    go_ret
    exact ⟨rfl, F, H.out, Moved.refl _ _⟩
  rw [if_neg c2]
  have HV1 : Aside0 (v ≤ 4294967294) := ⟨by omega⟩
  have b2 : decide (4294967294 < v) = false := decide_eq_false c2
  clear c2
  have HL1 : Aside0 (0 < Lib.bitLen (v + 1).toNat) := ⟨bitLen_pos' (by have := HV0.out; omega)⟩
  have HL2 : Aside0 (Lib.bitLen (v + 1).toNat ≤ 32) := ⟨Go.Proofs.Any.bitLen_le32 (v + 1) (by have := HV0.out; omega) (by have := HV1.out; omega)⟩
  have hlen : dioramaref01_Length.f 65 (v + 1) = some (Lib.bitLen (v + 1).toNat : Int) := by
    have := HV0.out; have := HV1.out
    unfold dioramaref01_Length.f
    have h9 := length_len 64 (v + 1).toNat 0 (by omega) (by omega) (by omega)
    rw [Int.toNat_of_nonneg (by omega)] at h9
    rw [show (0 : Int) = ((0 : Nat) : Int) from rfl, h9, Nat.zero_add]
    rfl
  have HLEN := Aside0.mk hlen
  clear hlen
  generalize Lib.bitLen (v + 1).toNat = z at HL1 HL2 HLEN ⊢
  have e1 : wrap64 (v + 1) = v + 1 := by have := HV0.out; have := HV1.out; unfold wrap64; omega
  have e3 : wrap64 (wrap64 (2 * (z : Int)) - 1) = 2 * (z : Int) - 1 := by have := HL2.out; unfold wrap64; omega
  have e4 : wrap64 ((z : Int) - 1) = ((z - 1 : Nat) : Int) := by have := HL1.out; have := HL2.out; unfold wrap64; omega
  by_cases c6 : (B.length : Int) + (2 * (z : Int) - 1) ≤ 8388608
  · rw [if_pos c6]
    have HR := Aside0.mk c6
    clear c6
    go_enter Try.func77, Try.ntmps77
    go_wp2_with fail
    refine (dioramaref01_Length.calls 65 (v + 1) _ _ HLEN.out).mono ?_
    rintro e w5 ⟨rfl, ⟨n5, rfl⟩⟩
    go_wp2_with fail
    refine (xroom_calls (H.out.drewN n5) (by have := HL.out; omega) (2 * (z : Int) - 1) (by omega) (by have := HL2.out; omega)).mono ?_
    rintro e w2 ⟨rfl, m2, rfl⟩
    rw [show decide ((B.length : Int) + (2 * (z : Int) - 1) ≤ 8388608) = true from decide_eq_true (by have := HR.out; omega)]
    go_wp2_with fail
    refine (ones_calls (H.out.drewN (n5 + m2)) HB.out (z - 1) (by have := HL2.out; omega) (by have := HL.out; have := HL2.out; omega)).mono ?_
    rintro e w3 ⟨rfl, F2, I2, M2⟩
    have HI2 := Aside0.mk I2
    have HM2 := Aside0.mk M2
    clear I2 M2
    go_wp2_with fail
    refine (low_calls HI2.out (Nat.le_trans HB.out HM2.out.size) (v + 1) (z - 1) (by have := HV0.out; omega) (by have := HV1.out; omega) (by have := HL2.out; omega) (by have := HR.out; have := HL1.out; simp [zerosB]; omega)).mono ?_
    rintro e w4 ⟨rfl, F3, I3, M3⟩
    have HI3 := Aside0.mk I3
    have HM3 := Aside0.mk M3
    clear I3 M3
    go_wp2_with fail
    go_ret
    exact ⟨rfl, F3, HI3.out, (((Moved.refl w F).drewN (n5 + m2)).trans HM2.out).trans HM3.out⟩
  · rw [if_neg c6]
    have HR := Aside0.mk c6
    clear c6
    go_enter Try.func77, Try.ntmps77
    go_wp2_with fail
    refine (dioramaref01_Length.calls 65 (v + 1) _ _ HLEN.out).mono ?_
    rintro e w5 ⟨rfl, ⟨n5, rfl⟩⟩
    go_wp2_with fail
    refine (xroom_calls (H.out.drewN n5) (by have := HL.out; omega) (2 * (z : Int) - 1) (by omega) (by have := HL2.out; omega)).mono ?_
    rintro e w2 ⟨rfl, m2, rfl⟩
    rw [show decide ((B.length : Int) + (2 * (z : Int) - 1) ≤ 8388608) = false from decide_eq_false (by have := HR.out; omega)]
    go_wp2_with fail
    go_ret
    exact ⟨rfl, F, H.out.drewN _, (Moved.refl _ _).drewN _⟩
end Go.Proofs.Ytlhdfdedhdcmiaa.QBits
