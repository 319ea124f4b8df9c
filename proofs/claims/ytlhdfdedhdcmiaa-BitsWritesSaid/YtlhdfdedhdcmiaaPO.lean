/- A lemma file: Put, Unary, Rice, Grow, Align and Bytes of a writer of bits, as functions of lists of bits. No condition. -/
import Derived.Test.YtlhdfdedhdcmiaaPN
import Derived.Test.YtlhdfdedhdcmiaaQBitsx48
namespace Go.Proofs.Ytlhdfdedhdcmiaa.QBits
open Go.RowKit Go.Proofs.YtlhdfdedhdcmiaaW.PrintWords Go.Proofs.YtlhdfdedhdcmiaaW.PrintLast Go.Proofs.YtlhdfdedhdcmiaaW.PrintMore Go.Proofs.YtlhdfdedhdcmiaaV
set_option linter.unusedVariables false
set_option linter.unusedSimpArgs false
def zerosB (n : Nat) : List Bool := List.replicate n false ++ [true]
def putF (v n : Int) (B : List Bool) : Int × List Bool := if n < 0 then (1, B) else if 32 < n then (1, B) else if v < 0 then (1, B) else if 0 < v / 2 ^ n.toNat then (1, B) else if (B.length : Int) + n ≤ 8388608 then (0, B ++ rawB v n.toNat) else (2, B)
def unaryF (n : Int) (B : List Bool) : Int × List Bool := if n < 0 then (1, B) else if 65535 < n then (1, B) else if (B.length : Int) + (n + 1) ≤ 8388608 then (0, B ++ zerosB n.toNat) else (2, B)
def riceF (v k : Int) (B : List Bool) : Int × List Bool := if k < 0 then (1, B) else if 24 < k then (1, B) else if v < 0 then (1, B) else if 65535 < v / 2 ^ k.toNat then (1, B) else if (B.length : Int) + (v / 2 ^ k.toNat + 1 + k) ≤ 8388608 then (0, B ++ zerosB (v / 2 ^ k.toNat).toNat ++ rawB v k.toNat) else (2, B)
def growF (v : Int) (B : List Bool) : Int × List Bool := if v < 0 then (1, B) else if 4294967294 < v then (1, B) else if (B.length : Int) + (2 * (Lib.bitLen (v + 1).toNat : Int) - 1) ≤ 8388608 then (0, B ++ zerosB (Lib.bitLen (v + 1).toNat - 1) ++ rawB (v + 1) (Lib.bitLen (v + 1).toNat - 1)) else (2, B)
def alignB (B : List Bool) : List Bool := B ++ List.replicate ((8 - B.length % 8) % 8) false
theorem put_calls {w : World} {base g : Nat} {F : Nat → Prop} {B : List Bool} (h : IsW w base F g B) (hb : base ≤ w.heap.size) (hl : B.length ≤ 8388608) (v n : Int) (hv1 : v ≤ 9223372036854775807) :
    Calls Try.prog 57 #[.pointer (some ⟨g, 0, none⟩), (.int .i64 v), (.int .i64 n)] w fun e w' => e = .returned (.int .i64 (putF v n B).1) ∧ ∃ F', IsW w' base F' g (putF v n B).2 ∧ Moved w w' F F' := by
  have H := Aside0.mk h
  have HB := Aside0.mk hb
  have HL := Aside0.mk hl
  have HV1 := Aside0.mk hv1
  clear h hb hl hv1
  unfold putF
  by_cases c1 : n < 0
  · rw [if_pos c1]
    have b1 : decide (n < 0) = true := decide_eq_true c1
    clear c1
    go_enter Try.func57, Try.ntmps57
    go_wp2_with fail
    refine (dead_calls H.out).mono ?_
    rintro e w1 ⟨rfl, m1, rfl⟩
    go_wp2_with fail
    go_ret
    exact ⟨rfl, F, H.out.drewN _, (Moved.refl _ _).drewN _⟩
  rw [if_neg c1]
  obtain ⟨m, rfl⟩ := Int.eq_ofNat_of_zero_le (show 0 ≤ n by omega)
  have b1 : decide ((m : Int) < 0) = false := decide_eq_false c1
  clear c1
  by_cases c2 : 32 < (m : Int)
  · rw [if_pos c2]
    have b2 : decide (32 < (m : Int)) = true := decide_eq_true c2
    have b3 : decide (32 < m) = true := decide_eq_true (by omega)
    clear c2
    go_enter Try.func57, Try.ntmps57
    go_wp2_with fail
    refine (dead_calls H.out).mono ?_
    rintro e w1 ⟨rfl, m1, rfl⟩
    go_wp2_with fail
    go_ret
    exact ⟨rfl, F, H.out.drewN _, (Moved.refl _ _).drewN _⟩
  rw [if_neg c2]
  have HM : Aside0 (m ≤ 32) := ⟨by omega⟩
  have b2 : decide (32 < (m : Int)) = false := decide_eq_false c2
  have b3 : decide (32 < m) = false := decide_eq_false (by omega)
  clear c2
  by_cases c3 : v < 0
  · rw [if_pos c3]
    have b4 : decide (v < 0) = true := decide_eq_true c3
    clear c3
    go_enter Try.func57, Try.ntmps57
    go_wp2_with fail
    refine (dead_calls H.out).mono ?_
    rintro e w1 ⟨rfl, m1, rfl⟩
    go_wp2_with fail
    go_ret
    exact ⟨rfl, F, H.out.drewN _, (Moved.refl _ _).drewN _⟩
  rw [if_neg c3, Int.toNat_natCast]
  have HV0 : Aside0 (0 ≤ v) := ⟨by omega⟩
  have b4 : decide (v < 0) = false := decide_eq_false c3
  clear c3
  have sh : v / 2 ^ min m 64 = v / 2 ^ m := by have := HM.out; rw [Nat.min_eq_left (by omega)]
  by_cases c4 : 0 < v / 2 ^ m
  · rw [if_pos c4]
    have b5 : decide (0 < v / 2 ^ m) = true := decide_eq_true c4
    clear c4
    go_enter Try.func57, Try.ntmps57
    go_wp2_with fail
    refine (dead_calls H.out).mono ?_
    rintro e w1 ⟨rfl, m1, rfl⟩
    go_wp2_with fail
    go_ret
    exact ⟨rfl, F, H.out.drewN _, (Moved.refl _ _).drewN _⟩
  rw [if_neg c4]
  have b5 : decide (0 < v / 2 ^ m) = false := decide_eq_false c4
  clear c4
  by_cases c6 : (B.length : Int) + (m : Int) ≤ 8388608
  · rw [if_pos c6]
    have HR := Aside0.mk c6
    clear c6
    go_enter Try.func57, Try.ntmps57
    go_wp2_with fail
    refine (dead_calls H.out).mono ?_
    rintro e w1 ⟨rfl, m1, rfl⟩
    go_wp2_with fail
    refine (room_calls (H.out.drewN m1) (by have := HL.out; omega) (m : Int) (by omega) (by have := HM.out; omega)).mono ?_
    rintro e w2 ⟨rfl, m2, rfl⟩
    rw [show decide ((B.length : Int) + (m : Int) ≤ 8388608) = true from decide_eq_true (by have := HR.out; omega)]
    go_wp2_with fail
    refine (raw_calls (H.out.drewN (m1 + m2)) HB.out v m HV0.out HV1.out (by have := HM.out; omega) (by have := HL.out; have := HM.out; omega)).mono ?_
    rintro e w3 ⟨rfl, F2, I2, M2⟩
    have HI2 := Aside0.mk I2
    have HM2 := Aside0.mk M2
    clear I2 M2
    go_wp2_with fail
    go_ret
    exact ⟨rfl, F2, HI2.out, ((Moved.refl w F).drewN (m1 + m2)).trans HM2.out⟩
  · rw [if_neg c6]
    have HR := Aside0.mk c6
    clear c6
    go_enter Try.func57, Try.ntmps57
    go_wp2_with fail
    refine (dead_calls H.out).mono ?_
    rintro e w1 ⟨rfl, m1, rfl⟩
    go_wp2_with fail
    refine (room_calls (H.out.drewN m1) (by have := HL.out; omega) (m : Int) (by omega) (by have := HM.out; omega)).mono ?_
    rintro e w2 ⟨rfl, m2, rfl⟩
    rw [show decide ((B.length : Int) + (m : Int) ≤ 8388608) = false from decide_eq_false (by have := HR.out; omega)]
    go_wp2_with fail
    go_ret
    exact ⟨rfl, F, H.out.drewN _, (Moved.refl _ _).drewN _⟩
theorem unary_calls {w : World} {base g : Nat} {F : Nat → Prop} {B : List Bool} (h : IsW w base F g B) (hb : base ≤ w.heap.size) (hl : B.length ≤ 8388608) (n : Int) :
    Calls Try.prog 58 #[.pointer (some ⟨g, 0, none⟩), (.int .i64 n)] w fun e w' => e = .returned (.int .i64 (unaryF n B).1) ∧ ∃ F', IsW w' base F' g (unaryF n B).2 ∧ Moved w w' F F' := by
  have H := Aside0.mk h
  have HB := Aside0.mk hb
  have HL := Aside0.mk hl
  clear h hb hl
  unfold unaryF
  by_cases c1 : n < 0
  · rw [if_pos c1]
    have b1 : decide (n < 0) = true := decide_eq_true c1
    clear c1
    go_enter Try.func58, Try.ntmps58
    go_wp2_with fail
    refine (dead_calls H.out).mono ?_
    rintro e w1 ⟨rfl, m1, rfl⟩
    go_wp2_with fail
    go_ret
    exact ⟨rfl, F, H.out.drewN _, (Moved.refl _ _).drewN _⟩
  rw [if_neg c1]
  obtain ⟨m, rfl⟩ := Int.eq_ofNat_of_zero_le (show 0 ≤ n by omega)
  have b1 : decide ((m : Int) < 0) = false := decide_eq_false c1
  clear c1
  by_cases c2 : 65535 < (m : Int)
  · rw [if_pos c2]
    have b2 : decide (65535 < (m : Int)) = true := decide_eq_true c2
    have b3 : decide (65535 < m) = true := decide_eq_true (by omega)
    clear c2
    go_enter Try.func58, Try.ntmps58
    go_wp2_with fail
    refine (dead_calls H.out).mono ?_
    rintro e w1 ⟨rfl, m1, rfl⟩
    go_wp2_with fail
    go_ret
    exact ⟨rfl, F, H.out.drewN _, (Moved.refl _ _).drewN _⟩
  rw [if_neg c2, Int.toNat_natCast]
  have HM : Aside0 (m ≤ 65535) := ⟨by omega⟩
  have b2 : decide (65535 < (m : Int)) = false := decide_eq_false c2
  have b3 : decide (65535 < m) = false := decide_eq_false (by omega)
  have e1 : wrap64 ((m : Int) + 1) = (m : Int) + 1 := by unfold wrap64; omega
  clear c2
  by_cases c6 : (B.length : Int) + ((m : Int) + 1) ≤ 8388608
  · rw [if_pos c6]
    have HR := Aside0.mk c6
    clear c6
    go_enter Try.func58, Try.ntmps58
    go_wp2_with fail
    refine (dead_calls H.out).mono ?_
    rintro e w1 ⟨rfl, m1, rfl⟩
    go_wp2_with fail
    rw [e1]
    refine (room_calls (H.out.drewN m1) (by have := HL.out; omega) ((m : Int) + 1) (by omega) (by have := HM.out; omega)).mono ?_
    rintro e w2 ⟨rfl, m2, rfl⟩
    rw [show decide ((B.length : Int) + ((m : Int) + 1) ≤ 8388608) = true from decide_eq_true (by have := HR.out; omega)]
    go_wp2_with fail
    refine (zeros_calls (H.out.drewN (m1 + m2)) HB.out m (by have := HM.out; omega) (by have := HL.out; have := HM.out; omega)).mono ?_
    rintro e w3 ⟨rfl, F2, I2, M2⟩
    have HI2 := Aside0.mk I2
    have HM2 := Aside0.mk M2
    clear I2 M2
    go_wp2_with fail
    go_ret
    exact ⟨rfl, F2, HI2.out, ((Moved.refl w F).drewN (m1 + m2)).trans HM2.out⟩
  · rw [if_neg c6]
    have HR := Aside0.mk c6
    clear c6
    go_enter Try.func58, Try.ntmps58
    go_wp2_with fail
    refine (dead_calls H.out).mono ?_
    rintro e w1 ⟨rfl, m1, rfl⟩
    go_wp2_with fail
    rw [e1]
    refine (room_calls (H.out.drewN m1) (by have := HL.out; omega) ((m : Int) + 1) (by omega) (by have := HM.out; omega)).mono ?_
    rintro e w2 ⟨rfl, m2, rfl⟩
    rw [show decide ((B.length : Int) + ((m : Int) + 1) ≤ 8388608) = false from decide_eq_false (by have := HR.out; omega)]
    go_wp2_with fail
    go_ret
    exact ⟨rfl, F, H.out.drewN _, (Moved.refl _ _).drewN _⟩
theorem rice_calls {w : World} {base g : Nat} {F : Nat → Prop} {B : List Bool} (h : IsW w base F g B) (hb : base ≤ w.heap.size) (hl : B.length ≤ 8388608) (v k : Int) (hv1 : v ≤ 9223372036854775807) :
    Calls Try.prog 59 #[.pointer (some ⟨g, 0, none⟩), (.int .i64 v), (.int .i64 k)] w fun e w' => e = .returned (.int .i64 (riceF v k B).1) ∧ ∃ F', IsW w' base F' g (riceF v k B).2 ∧ Moved w w' F F' := by
  have H := Aside0.mk h
  have HB := Aside0.mk hb
  have HL := Aside0.mk hl
  have HV1 := Aside0.mk hv1
  clear h hb hl hv1
  unfold riceF
  by_cases c1 : k < 0
  · rw [if_pos c1]
    have b1 : decide (k < 0) = true := decide_eq_true c1
    clear c1
    go_enter Try.func59, Try.ntmps59
    go_wp2_with fail
    refine (dead_calls H.out).mono ?_
    rintro e w1 ⟨rfl, m1, rfl⟩
    go_wp2_with fail
    go_ret
    exact ⟨rfl, F, H.out.drewN _, (Moved.refl _ _).drewN _⟩
  rw [if_neg c1]
  obtain ⟨m, rfl⟩ := Int.eq_ofNat_of_zero_le (show 0 ≤ k by omega)
  have b1 : decide ((m : Int) < 0) = false := decide_eq_false c1
  clear c1
  by_cases c2 : 24 < (m : Int)
  · rw [if_pos c2]
    have b2 : decide (24 < (m : Int)) = true := decide_eq_true c2
    have b3 : decide (24 < m) = true := decide_eq_true (by omega)
    clear c2
    go_enter Try.func59, Try.ntmps59
    go_wp2_with fail
    refine (dead_calls H.out).mono ?_
    rintro e w1 ⟨rfl, m1, rfl⟩
    go_wp2_with fail
    go_ret
    exact ⟨rfl, F, H.out.drewN _, (Moved.refl _ _).drewN _⟩
  rw [if_neg c2]
  have HM : Aside0 (m ≤ 24) := ⟨by omega⟩
  have b2 : decide (24 < (m : Int)) = false := decide_eq_false c2
  have b3 : decide (24 < m) = false := decide_eq_false (by omega)
  clear c2
  by_cases c3 : v < 0
  · rw [if_pos c3]
    have b4 : decide (v < 0) = true := decide_eq_true c3
    clear c3
    go_enter Try.func59, Try.ntmps59
    go_wp2_with fail
    refine (dead_calls H.out).mono ?_
    rintro e w1 ⟨rfl, m1, rfl⟩
    go_wp2_with fail
    go_ret
    exact ⟨rfl, F, H.out.drewN _, (Moved.refl _ _).drewN _⟩
  rw [if_neg c3, Int.toNat_natCast]
  have HV0 : Aside0 (0 ≤ v) := ⟨by omega⟩
  have b4 : decide (v < 0) = false := decide_eq_false c3
  clear c3
  have sh : v / 2 ^ min m 64 = v / 2 ^ m := by have := HM.out; rw [Nat.min_eq_left (by omega)]
  obtain ⟨z, hz⟩ : ∃ z : Nat, v / 2 ^ m = (z : Int) := Int.eq_ofNat_of_zero_le (Int.ediv_nonneg HV0.out (Int.pow_nonneg (by omega)))
  rw [hz] at sh ⊢
  by_cases c4 : 65535 < (z : Int)
  · rw [if_pos c4]
    have b5 : decide (65535 < (z : Int)) = true := decide_eq_true c4
    have b6 : decide (65535 < z) = true := decide_eq_true (by omega)
    clear c4
    go_enter Try.func59, Try.ntmps59
    go_wp2_with fail
    refine (dead_calls H.out).mono ?_
    rintro e w1 ⟨rfl, m1, rfl⟩
    go_wp2_with fail
    go_ret
    exact ⟨rfl, F, H.out.drewN _, (Moved.refl _ _).drewN _⟩
  rw [if_neg c4, Int.toNat_natCast]
  have HZ : Aside0 (z ≤ 65535) := ⟨by omega⟩
  have b5 : decide (65535 < (z : Int)) = false := decide_eq_false c4
  have b6 : decide (65535 < z) = false := decide_eq_false (by omega)
  have e1 : wrap64 ((z : Int) + 1) = (z : Int) + 1 := by unfold wrap64; omega
  have e2 : wrap64 ((z : Int) + 1 + (m : Int)) = (z : Int) + 1 + (m : Int) := by have := HM.out; unfold wrap64; omega
  clear c4
  by_cases c6 : (B.length : Int) + ((z : Int) + 1 + (m : Int)) ≤ 8388608
  · rw [if_pos c6]
    have HR := Aside0.mk c6
    clear c6
    go_enter Try.func59, Try.ntmps59
    go_wp2_with fail
    refine (dead_calls H.out).mono ?_
    rintro e w1 ⟨rfl, m1, rfl⟩
    go_wp2_with fail
    rw [e1, e2]
    refine (room_calls (H.out.drewN m1) (by have := HL.out; omega) ((z : Int) + 1 + (m : Int)) (by omega) (by have := HM.out; have := HZ.out; omega)).mono ?_
    rintro e w2 ⟨rfl, m2, rfl⟩
    rw [show decide ((B.length : Int) + ((z : Int) + 1 + (m : Int)) ≤ 8388608) = true from decide_eq_true (by have := HR.out; omega)]
    go_wp2_with fail
    refine (zeros_calls (H.out.drewN (m1 + m2)) HB.out z (by have := HZ.out; omega) (by have := HL.out; have := HZ.out; omega)).mono ?_
    rintro e w3 ⟨rfl, F2, I2, M2⟩
    have HI2 := Aside0.mk I2
    have HM2 := Aside0.mk M2
    clear I2 M2
    go_wp2_with fail
    refine (raw_calls HI2.out (Nat.le_trans HB.out HM2.out.size) v m HV0.out HV1.out (by have := HM.out; omega) (by have := HR.out; simp; omega)).mono ?_
    rintro e w4 ⟨rfl, F3, I3, M3⟩
    have HI3 := Aside0.mk I3
    have HM3 := Aside0.mk M3
    clear I3 M3
    go_wp2_with fail
    go_ret
    exact ⟨rfl, F3, HI3.out, (((Moved.refl w F).drewN (m1 + m2)).trans HM2.out).trans HM3.out⟩
  · rw [if_neg c6]
    have HR := Aside0.mk c6
    clear c6
    go_enter Try.func59, Try.ntmps59
    go_wp2_with fail
    refine (dead_calls H.out).mono ?_
    rintro e w1 ⟨rfl, m1, rfl⟩
    go_wp2_with fail
    rw [e1, e2]
    refine (room_calls (H.out.drewN m1) (by have := HL.out; omega) ((z : Int) + 1 + (m : Int)) (by omega) (by have := HM.out; have := HZ.out; omega)).mono ?_
    rintro e w2 ⟨rfl, m2, rfl⟩
    rw [show decide ((B.length : Int) + ((z : Int) + 1 + (m : Int)) ≤ 8388608) = false from decide_eq_false (by have := HR.out; omega)]
    go_wp2_with fail
    go_ret
    exact ⟨rfl, F, H.out.drewN _, (Moved.refl _ _).drewN _⟩
theorem bitLen_pos' {n : Nat} (h : 0 < n) : 0 < Lib.bitLen n := by
  show 0 < Lib.bitLenAux (63 + 1) n
  simp only [Lib.bitLenAux]
  rw [if_neg (by omega)]
  omega
theorem grow_calls {w : World} {base g : Nat} {F : Nat → Prop} {B : List Bool} (h : IsW w base F g B) (hb : base ≤ w.heap.size) (hl : B.length ≤ 8388608) (v : Int) :
    Calls Try.prog 60 #[.pointer (some ⟨g, 0, none⟩), (.int .i64 v)] w fun e w' => e = .returned (.int .i64 (growF v B).1) ∧ ∃ F', IsW w' base F' g (growF v B).2 ∧ Moved w w' F F' := by
  have H := Aside0.mk h
  have HB := Aside0.mk hb
  have HL := Aside0.mk hl
  clear h hb hl
  unfold growF
  by_cases c1 : v < 0
  · rw [if_pos c1]
    have b1 : decide (v < 0) = true := decide_eq_true c1
    clear c1
    go_enter Try.func60, Try.ntmps60
    go_wp2_with fail
    refine (dead_calls H.out).mono ?_
    rintro e w1 ⟨rfl, m1, rfl⟩
    go_wp2_with fail
    go_ret
    exact ⟨rfl, F, H.out.drewN _, (Moved.refl _ _).drewN _⟩
  rw [if_neg c1]
  have HV0 : Aside0 (0 ≤ v) := ⟨by omega⟩
  have b1 : decide (v < 0) = false := decide_eq_false c1
  clear c1
  by_cases c2 : 4294967294 < v
  · rw [if_pos c2]
    have b2 : decide (4294967294 < v) = true := decide_eq_true c2
    clear c2
    go_enter Try.func60, Try.ntmps60
    go_wp2_with fail
    refine (dead_calls H.out).mono ?_
    rintro e w1 ⟨rfl, m1, rfl⟩
    go_wp2_with fail
    go_ret
    exact ⟨rfl, F, H.out.drewN _, (Moved.refl _ _).drewN _⟩
  rw [if_neg c2]
  have HV1 : Aside0 (v ≤ 4294967294) := ⟨by omega⟩
  have b2 : decide (4294967294 < v) = false := decide_eq_false c2
  clear c2
  have HL1 : Aside0 (0 < Lib.bitLen (v + 1).toNat) := ⟨bitLen_pos' (by have := HV0.out; omega)⟩
  have HL2 : Aside0 (Lib.bitLen (v + 1).toNat ≤ 32) := ⟨Go.Proofs.Any.bitLen_le32 (v + 1) (by have := HV0.out; omega) (by have := HV1.out; omega)⟩
  have hlen : bits_Len.f (v + 1) = some (Lib.bitLen (v + 1).toNat : Int) := by have := HV0.out; have := HV1.out; unfold bits_Len.f; rw [if_pos (by omega), if_pos (by omega)]
  have HLEN := Aside0.mk hlen
  clear hlen
  generalize Lib.bitLen (v + 1).toNat = z at HL1 HL2 HLEN ⊢
  have e1 : wrap64 (v + 1) = v + 1 := by have := HV0.out; have := HV1.out; unfold wrap64; omega
  have e2 : IntKind.u64.wrap (v + 1) = v + 1 := by have := HV0.out; have := HV1.out; rw [IntKind.wrap_u64]; omega
  have e3 : wrap64 (wrap64 (2 * (z : Int)) - 1) = 2 * (z : Int) - 1 := by have := HL2.out; unfold wrap64; omega
  have e4 : wrap64 ((z : Int) - 1) = ((z - 1 : Nat) : Int) := by have := HL1.out; have := HL2.out; unfold wrap64; omega
  by_cases c6 : (B.length : Int) + (2 * (z : Int) - 1) ≤ 8388608
  · rw [if_pos c6]
    have HR := Aside0.mk c6
    clear c6
    go_enter Try.func60, Try.ntmps60
    go_wp2_with fail
    refine (dead_calls H.out).mono ?_
    rintro e w1 ⟨rfl, m1, rfl⟩
    go_wp2_with fail
    refine (bits_Len.calls (v + 1) _ _ HLEN.out).mono ?_
    rintro e w5 ⟨rfl, ⟨n5, rfl⟩⟩
    go_wp2_with fail
    refine (room_calls (H.out.drewN (m1 + n5)) (by have := HL.out; omega) (2 * (z : Int) - 1) (by omega) (by have := HL2.out; omega)).mono ?_
    rintro e w2 ⟨rfl, m2, rfl⟩
    rw [show decide ((B.length : Int) + (2 * (z : Int) - 1) ≤ 8388608) = true from decide_eq_true (by have := HR.out; omega)]
    go_wp2_with fail
    refine (zeros_calls (H.out.drewN (m1 + n5 + m2)) HB.out (z - 1) (by have := HL2.out; omega) (by have := HL.out; have := HL2.out; omega)).mono ?_
    rintro e w3 ⟨rfl, F2, I2, M2⟩
    have HI2 := Aside0.mk I2
    have HM2 := Aside0.mk M2
    clear I2 M2
    go_wp2_with fail
    refine (raw_calls HI2.out (Nat.le_trans HB.out HM2.out.size) (v + 1) (z - 1) (by have := HV0.out; omega) (by have := HV1.out; omega) (by have := HL2.out; omega) (by have := HR.out; have := HL1.out; simp; omega)).mono ?_
    rintro e w4 ⟨rfl, F3, I3, M3⟩
    have HI3 := Aside0.mk I3
    have HM3 := Aside0.mk M3
    clear I3 M3
    go_wp2_with fail
    go_ret
    exact ⟨rfl, F3, HI3.out, (((Moved.refl w F).drewN (m1 + n5 + m2)).trans HM2.out).trans HM3.out⟩
  · rw [if_neg c6]
    have HR := Aside0.mk c6
    clear c6
    go_enter Try.func60, Try.ntmps60
    go_wp2_with fail
    refine (dead_calls H.out).mono ?_
    rintro e w1 ⟨rfl, m1, rfl⟩
    go_wp2_with fail
    refine (bits_Len.calls (v + 1) _ _ HLEN.out).mono ?_
    rintro e w5 ⟨rfl, ⟨n5, rfl⟩⟩
    go_wp2_with fail
    refine (room_calls (H.out.drewN (m1 + n5)) (by have := HL.out; omega) (2 * (z : Int) - 1) (by omega) (by have := HL2.out; omega)).mono ?_
    rintro e w2 ⟨rfl, m2, rfl⟩
    rw [show decide ((B.length : Int) + (2 * (z : Int) - 1) ≤ 8388608) = false from decide_eq_false (by have := HR.out; omega)]
    go_wp2_with fail
    go_ret
    exact ⟨rfl, F, H.out.drewN _, (Moved.refl _ _).drewN _⟩
theorem packB_align (B : List Bool) : packB (alignB B) = packB B := by
  unfold packB alignB
  have hl : (B ++ List.replicate ((8 - B.length % 8) % 8) false).length = B.length + (8 - B.length % 8) % 8 := by simp
  rw [hl, show (B.length + (8 - B.length % 8) % 8 + 7) / 8 = (B.length + 7) / 8 by omega]
  apply List.map_congr_left
  intro i _
  congr 1
  unfold byteB
  congr 1
  funext j
  unfold bitAt
  rw [List.getD_eq_getElem?_getD, List.getD_eq_getElem?_getD]
  by_cases h : 8 * i + j < B.length
  · rw [List.getElem?_append_left h]
  · rw [List.getElem?_append_right (by omega), List.getElem?_eq_none (l := B) (by omega), List.getElem?_replicate]
    split <;> rfl
theorem alignB_length (B : List Bool) : (alignB B).length = (B.length + 7) / 8 * 8 := by unfold alignB; simp; omega
theorem RawW.count {W : World} {base g gc : Nat} {v : Value} {bs : List Int} {n : Int} (h : RawW W base g gc v bs n) (m : Int) :
    RawW ((W.setCell ⟨gc, 0, none⟩ (.int .i64 m)).drew) base g gc v bs m ∧ Moved W ((W.setCell ⟨gc, 0, none⟩ (.int .i64 m)).drew) (footW g gc v) (footW g gc v) := by
  obtain ⟨n1, n2, n3⟩ := h.ne
  refine ⟨⟨blk_far h.hg (p := ⟨gc, 0, none⟩) n1 _, ?_, own_setCell h.row (p := ⟨gc, 0, none⟩) n3 _, h.bg, h.bc⟩, ⟨rfl, rfl, rfl, by simp [World.setCell, World.drew], fun k hk hn => ?_, fun k hk => .inl hk⟩⟩
  · have h9 := blk_set h.hc 0 (.int .i64 m)
    simp at h9
    exact h9
  · exact Below.heap_setCell _ ⟨gc, 0, none⟩ _ k (fun e => hn (.inr (.inl e)))
theorem align_calls {w : World} {base g : Nat} {F : Nat → Prop} {B : List Bool} (h : IsW w base F g B) (hb : base ≤ w.heap.size) (hl : B.length ≤ 8388608) :
    Calls Try.prog 61 #[.pointer (some ⟨g, 0, none⟩)] w fun e w' => e = .returned (.tuple #[]) ∧ ∃ F', IsW w' base F' g (alignB B) ∧ Moved w w' F F' := by
  have H := Aside0.mk h
  obtain ⟨gc, v, h, hF⟩ := h
  have HR := Aside0.mk h
  have HF := Aside0.mk hF
  have cg0 : w.cell? ⟨g, 0, none⟩ = some (.pointer (some ⟨gc, 0, none⟩)) := (blk_cell h.hg 0).trans rfl
  have cc0 : w.cell? ⟨gc, 0, none⟩ = some (.int .i64 (B.length : Int)) := (blk_cell h.hc 0).trans rfl
  have fc0 := blk_frozen h.hc 0
  obtain ⟨p, hp⟩ : ∃ p, p = B.length + 7 := ⟨_, rfl⟩
  obtain ⟨q, hq⟩ : ∃ q, q = p / 8 := ⟨_, rfl⟩
  obtain ⟨r, hr⟩ : ∃ r, r = q * 8 := ⟨_, rfl⟩
  have e1 : wrap64 ((B.length : Int) + 7) = (p : Int) := by unfold wrap64; omega
  have e2 : IntKind.i64.wrap ((B.length : Int) + 7) = (p : Int) := by rw [IntKind.wrap_i64]; omega
  have e3 : (p : Int).tdiv 8 = (q : Int) := by rw [Int.tdiv_eq_ediv_of_nonneg (by omega)]; omega
  have e4 : (p : Int) / 8 = (q : Int) := by omega
  have e5 : IntKind.i64.wrap (q : Int) = (q : Int) := by rw [IntKind.wrap_i64]; omega
  have e6 : IntKind.i64.wrap ((q : Int) * 8) = (r : Int) := by rw [IntKind.wrap_i64]; omega
  have HA : Aside0 ((r : Int) = ((alignB B).length : Int)) := ⟨by rw [alignB_length]; omega⟩
  clear h hF hl hp hq hr cg0 cc0 fc0
  go_enter Try.func61, Try.ntmps61
  go_wp2_with fail
  refine (dead_calls H.out).mono ?_
  rintro e w1 ⟨rfl, hw⟩
  have HR1 : Aside0 (RawW w1 base g gc v (packB B) B.length) := ⟨by obtain ⟨m, rfl⟩ := hw; exact HR.out.same (Nat.le_refl _) (fun _ _ _ => rfl)⟩
  have HM1 : Aside0 (Moved w w1 F F) := ⟨by obtain ⟨m, rfl⟩ := hw; exact (Moved.refl _ _).drewN _⟩
  have cg0 : w1.cell? ⟨g, 0, none⟩ = some (.pointer (some ⟨gc, 0, none⟩)) := (blk_cell HR1.out.hg 0).trans rfl
  have cc0 : w1.cell? ⟨gc, 0, none⟩ = some (.int .i64 (B.length : Int)) := (blk_cell HR1.out.hc 0).trans rfl
  have fc0 := blk_frozen HR1.out.hc 0
  clear hw
  go_wp2_with fail
  go_still_tail 16, (by kernel_rfl)
  change wpList _ _ _ _ _ w1.drew
  go_wp2_with fail
  go_end0
  obtain ⟨P1, P2⟩ := HR1.out.count (r : Int)
  refine ⟨rfl, F, ⟨gc, v, ?_, HF.out⟩, HM1.out.trans (by rw [HF.out]; exact P2)⟩
  rw [packB_align, ← HA.out]
  exact P1
theorem bytes_calls {w : World} {base g : Nat} {F : Nat → Prop} {B : List Bool} (h : IsW w base F g B) (hl : B.length ≤ 67108864) :
    Calls Try.prog 55 #[.pointer (some ⟨g, 0, none⟩)] w fun e w' => ∃ v0, e = .returned v0 ∧ Kd.R (Kd.int .u8) 5 w' w.heap.size (fun _ => True) v0 (packB B) ∧ Below w.heap.size w w' := by
  have H := Aside0.mk h
  obtain ⟨gc, v, h, hF⟩ := h
  obtain ⟨A, c, rfl⟩ := own_slice h.row
  have info5 : (Try.prog.info? 5).map (fun i => (i.zero, i.size, i.bytes)) = some (some (.int .u8 0), 1, 1) := by kernel_rfl
  have HR := Aside0.mk h
  have HL := Aside0.mk hl
  have cg1 : w.cell? ⟨g, 1, none⟩ = some (.slice A (packB B).length c) := (blk_cell h.hg 1).trans rfl
  clear h hF hl
  go_enter Try.func55, Try.ntmps55
  go_wp2_with fail
  refine (dead_calls H.out).mono ?_
  rintro e w1 ⟨rfl, m1, rfl⟩
  go_wp2_with (at_builtin; refine print_append_row (w0 := w) (W := w.drewN m1) w.heap.size rfl _ (.tmp 8) 22 5 .u8 1 rfl Try.underlying22 info5 (by decide) (.slice none 0 0) [] (packB B) A (packB B).length c rfl rfl (own_nil _ _ _ _) ?_ (pw_below_drewN (Below.refl _ _) _) (Nat.le_refl _) (by have := HL.out; rw [packB_length]; simp; omega) ?_)
  · obtain ⟨A2, c2, e2, h2⟩ := own_reads HR.out.row
    simp only [Value.slice.injEq] at e2
    obtain ⟨rfl, -, rfl⟩ := e2
    exact h2.below (pw_below_drewN (Below.refl _ _) _)
  · intro v1 w1 hown hB hG hat
    have S1 := Aside0.mk hown
    have S2 := Aside0.mk hB
    clear hown hB hG hat
    go_wp2
    go_ret
    exact ⟨v1, rfl, Kd.R_of_own (h1 := fun _ => rfl) (by simpa [encs, nums] using S1.out) (fun _ _ => trivial), S2.out⟩
theorem new_calls (w : World) :
    Calls Try.prog 51 #[] w fun e w' => ∃ g F, e = .returned (.pointer (some ⟨g, 0, none⟩)) ∧ IsW w' w.heap.size F g [] ∧ Below w.heap.size w w' := by
  go_enter Try.func51, Try.ntmps51
  go_wp2
  go_ret
  have hs : (w.alloc (Obj.cells #[Value.int IntKind.i64 0] 85)).heap.size = w.heap.size + 1 := by show (w.heap.push _).size = _; simp
  refine ⟨w.heap.size + 1, _, rfl, ⟨w.heap.size, .slice none 0 0, ⟨?_, ?_, own_nil _ _ _ _, Nat.le_succ _, Nat.le_refl _⟩, rfl⟩, below_alloc (below_alloc (Below.refl _ _) _) _⟩
  · rw [← hs]
    simpa using heap_alloc_new (w.alloc (Obj.cells #[Value.int IntKind.i64 0] 85)) (Obj.cells #[Value.pointer (some ⟨w.heap.size, 0, none⟩), Value.slice none 0 0] 87)
  · have h1 : (w.alloc (Obj.cells #[Value.int IntKind.i64 0] 85)).heap[w.heap.size]? = some (Obj.cells #[Value.int IntKind.i64 0] 85) := by simpa using heap_alloc_new w (Obj.cells #[Value.int IntKind.i64 0] 85)
    exact ((below_alloc (Below.refl _ (w.alloc (Obj.cells #[Value.int IntKind.i64 0] 85))) _).block w.heap.size (by rw [hs]; omega)).trans h1
end Go.Proofs.Ytlhdfdedhdcmiaa.QBits
