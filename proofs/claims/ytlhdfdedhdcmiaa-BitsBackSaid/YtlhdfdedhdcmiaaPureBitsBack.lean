/- What is proved: what any calls write is read back, one number after the other, whatever bytes stand behind; then as many bits were read as were written. This text: the statement about numbers and lists alone. No condition. -/
import Derived.Test.YtlhdfdedhdcmiaaPReader
import Derived.Test.YtlhdfdedhdcmiaaPXr
import Derived.Test.YtlhdfdedhdcmiaaVAwake01
import Derived.Test.YtlhdfdedhdcmiaaPCopy
import Derived.Test.YtlhdfdedhdcmiaaLC
import Derived.Lib.ItoaNum
namespace Go.Proofs.Ytlhdfdedhdcmiaa.Pure
open Go.RowKit Go.Proofs.Ytlhdfdedhdcmiaa.QBits Go.Proofs.YtlhdfdedhdcmiaaW.PrintWords Go.Proofs.YtlhdfdedhdcmiaaW.PrintMore Go.Proofs.YtlhdfdedhdcmiaaV
def b1 (b : Bool) : Nat := if b then 1 else 0
theorem bsum_bit : ∀ (f0 f1 f2 f3 f4 f5 f6 f7 : Bool), ∀ j : Fin 8, ((bw f0 128 + bw f1 64 + bw f2 32 + bw f3 16 + bw f4 8 + bw f5 4 + bw f6 2 + bw f7 1) / 2 ^ (7 - j.1)) % 2 = b1 (match j.1 with | 0 => f0 | 1 => f1 | 2 => f2 | 3 => f3 | 4 => f4 | 5 => f5 | 6 => f6 | _ => f7) := by
  decide +kernel
theorem byteB_bit (B : List Bool) (i j : Nat) (hj : j < 8) : (byteB B i / 2 ^ (7 - j)) % 2 = b1 (bitAt B (8 * i + j)) := by
  have h := bsum_bit (bitAt B (8 * i + 0)) (bitAt B (8 * i + 1)) (bitAt B (8 * i + 2)) (bitAt B (8 * i + 3)) (bitAt B (8 * i + 4)) (bitAt B (8 * i + 5)) (bitAt B (8 * i + 6)) (bitAt B (8 * i + 7)) ⟨j, hj⟩
  unfold byteB bsum
  refine h.trans ?_
  have c : j = 0 ∨ j = 1 ∨ j = 2 ∨ j = 3 ∨ j = 4 ∨ j = 5 ∨ j = 6 ∨ j = 7 := by omega
  rcases c with rfl | rfl | rfl | rfl | rfl | rfl | rfl | rfl <;> rfl
theorem bitS_pack {T : List Bool} {m : List Int} {p : Nat} (h : p < T.length) : bitS (packB T ++ m) p = b1 (bitAt T p) := by
  have hr : rd (packB T ++ m) ((p / 8 : Nat) : Int) = ((byteB T (p / 8) : Nat) : Int) := by
    rw [← packB_rd (B := T) (i := p / 8) (by omega)]
    unfold rd
    rw [Int.toNat_natCast, List.getD_eq_getElem?_getD, List.getD_eq_getElem?_getD, List.getElem?_append_left (by rw [packB_length]; omega)]
  unfold bitS
  rw [hr, Int.toNat_natCast, byteB_bit T (p / 8) (p % 8) (Nat.mod_lt _ (by omega)), Nat.div_add_mod]
/-- T from place a on begins with X. -/
def At (T : List Bool) (a : Nat) (X : List Bool) : Prop := a + X.length ≤ T.length ∧ ∀ i, i < X.length → bitAt T (a + i) = bitAt X i
theorem At.mk' (P X R : List Bool) : At (P ++ X ++ R) P.length X := by
  refine ⟨by simp, fun i hi => ?_⟩
  unfold bitAt
  rw [List.getD_eq_getElem?_getD, List.getD_eq_getElem?_getD, List.append_assoc, List.getElem?_append_right (by omega), List.getElem?_append_left (by omega)]
  congr 2
  omega
theorem At.left {T : List Bool} {a : Nat} {X Y : List Bool} (h : At T a (X ++ Y)) : At T a X := by
  refine ⟨by have := h.1; simp at this; omega, fun i hi => ?_⟩
  rw [h.2 i (by simp; omega)]
  unfold bitAt
  rw [List.getD_eq_getElem?_getD, List.getD_eq_getElem?_getD, List.getElem?_append_left hi]
theorem At.right {T : List Bool} {a : Nat} {X Y : List Bool} (h : At T a (X ++ Y)) : At T (a + X.length) Y := by
  refine ⟨by have := h.1; simp at this; omega, fun i hi => ?_⟩
  rw [Nat.add_assoc, h.2 (X.length + i) (by simp; omega)]
  unfold bitAt
  rw [List.getD_eq_getElem?_getD, List.getD_eq_getElem?_getD, List.getElem?_append_right (by omega)]
  congr 2
  omega
theorem bitAt_rawB (v : Int) : ∀ (n i : Nat), i < n → bitAt (rawB v n) i = decide ((v / 2 ^ (n - 1 - i)) % 2 = 1)
  | n + 1, 0, _ => by simp [bitAt, rawB]
  | n + 1, i + 1, h => by
    have ih := bitAt_rawB v n i (by omega)
    have e : n + 1 - 1 - (i + 1) = n - 1 - i := by omega
    rw [e, ← ih]
    simp [bitAt, rawB]
theorem numB_raw {T : List Bool} {m : List Int} {a n : Nat} {v : Nat} (h : At T a (rawB (v : Int) n)) : ∀ d, d ≤ n → numB (packB T ++ m) a d = (v / 2 ^ (n - d)) % 2 ^ d
  | 0, _ => by simp [numB, Nat.mod_one]
  | d + 1, hd => by
    have ih := numB_raw (m := m) h d (by omega)
    have hT := h.1
    rw [rawB_length] at hT
    have e1 : bitS (packB T ++ m) (a + d) = (v / 2 ^ (n - 1 - d)) % 2 := by
      rw [bitS_pack (by omega), h.2 d (by rw [rawB_length]; omega), bitAt_rawB _ n d (by omega)]
      have e2 : ((v : Int) / 2 ^ (n - 1 - d)) % 2 = (((v / 2 ^ (n - 1 - d)) % 2 : Nat) : Int) := by norm_cast
      rw [e2]
      generalize (v / 2 ^ (n - 1 - d)) = z
      unfold b1
      by_cases hz : z % 2 = 1
      · simp [hz]
      · have : z % 2 = 0 := by omega
        simp [this]
    simp only [numB]
    rw [ih, e1, show n - (d + 1) = n - 1 - d by omega, show n - d = (n - 1 - d) + 1 by omega, Nat.pow_succ, ← Nat.div_div_eq_div_mul]
    generalize v / 2 ^ (n - 1 - d) = z
    rw [Nat.pow_succ, Nat.mul_comm (2 ^ d) 2, Nat.mod_mul]
    omega
theorem zeros_at {b : List Int} {a : Nat} (s : Int) (hl : b.length ≤ 1100000) (hb : ∀ y ∈ b, 0 ≤ y ∧ y ≤ 255) (most : Int) (n : Nat) (hm : (n : Int) ≤ most) (hend : a + n < 8 * b.length) (hz : ∀ i, i < n → bitS b (a + i) = 0) (h1 : bitS b (a + n) = 1) : ∀ d i, i + d = n → Ev (fun k => bits_Reader_zeros.l0 k most ((a + i : Nat) : Int) (i : Int) b s) ((n : Int), ((a + n + 1 : Nat) : Int), 0, s)
  | 0, i, h => by
    obtain rfl : i = n := by omega
    have e8 : wrap64 (8 * (b.length : Int)) = ((8 * b.length : Nat) : Int) := by rw [w64 (by omega) (by omega)]; omega
    refine Ev.step (f := fun _ => some ((i : Int), ((a + i + 1 : Nat) : Int), 0, s)) (fun k => ?_) (Ev.now _)
    simp only [bits_Reader_zeros.l0]
    rw [e8, if_pos (by omega), bit_p s hl hb hend]
    simp only [Option.bind_some]
    rw [h1, if_pos (by decide), w64 (by omega) (by omega)]
    rfl
  | d + 1, i, h => by
    have ih := zeros_at s hl hb most n hm hend hz h1 d (i + 1) (by omega)
    have e8 : wrap64 (8 * (b.length : Int)) = ((8 * b.length : Nat) : Int) := by rw [w64 (by omega) (by omega)]; omega
    have e9 : wrap64 ((a + i : Nat) : Int) = ((a + i : Nat) : Int) := by rw [w64 (by omega) (by omega)]
    refine Ev.step (fun k => ?_) ih
    simp only [bits_Reader_zeros.l0]
    rw [e8, if_pos (by omega), bit_p s hl hb (by omega)]
    simp only [Option.bind_some]
    rw [hz i (by omega), if_neg (by decide), if_neg (by omega), show wrap64 (((a + i : Nat) : Int) + 1) = ((a + (i + 1) : Nat) : Int) by rw [w64 (by omega) (by omega)]; omega, show wrap64 ((i : Int) + 1) = ((i + 1 : Nat) : Int) by rw [w64 (by omega) (by omega)]; omega]
theorem zeros_ev {T : List Bool} {m : List Int} {a n : Nat} (hl : (packB T ++ m).length ≤ 1100000) (hb : ∀ y ∈ packB T ++ m, 0 ≤ y ∧ y ≤ 255) (most : Int) (hm : (n : Int) ≤ most) (h : At T a (zerosB n)) : Ev (fun k => bits_Reader_zeros.f k (packB T ++ m) (a : Int) most) ((n : Int), ((a + n + 1 : Nat) : Int), 0, (a : Int)) := by
  have hT := h.1
  simp only [zerosB, List.length_append, List.length_replicate, List.length_singleton] at hT
  have hlen : T.length ≤ 8 * (packB T ++ m).length := by rw [List.length_append, packB_length]; omega
  have z := zeros_at (b := packB T ++ m) (a := a) (a : Int) hl hb most n hm (by omega) (fun i hi => by
    rw [bitS_pack (by omega), h.2 i (by simp [zerosB]; omega)]
    have : bitAt (zerosB n) i = false := by
      unfold bitAt zerosB
      rw [List.getD_eq_getElem?_getD, List.getElem?_append_left (by simpa using hi), List.getElem?_replicate, if_pos hi]
      rfl
    rw [this]; rfl) (by
    rw [bitS_pack (by omega), h.2 n (by simp [zerosB])]
    have : bitAt (zerosB n) n = true := by
      unfold bitAt zerosB
      rw [List.getD_eq_getElem?_getD, List.getElem?_append_right (by simp)]
      simp
    rw [this]; rfl) n 0 (by omega)
  exact z
theorem len_pack {T : List Bool} {m : List Int} (hT : T.length ≤ 8388608) (hm : m.length ≤ 400) : (packB T ++ m).length ≤ 1100000 ∧ T.length ≤ 8 * (packB T ++ m).length := by
  rw [List.length_append, packB_length]
  omega
theorem get_back {T : List Bool} {m : List Int} {a n v : Nat} (hT : T.length ≤ 8388608) (hm : m.length ≤ 400) (hb : ∀ y ∈ packB T ++ m, 0 ≤ y ∧ y ≤ 255) (hn : n ≤ 32) (hv : v < 2 ^ n) (h : At T a (rawB (v : Int) n)) : Ev (fun k => bits_Reader_Get.f k (packB T ++ m) (a : Int) (n : Int)) ((v : Int), 0, ((a + n : Nat) : Int)) := by
  obtain ⟨h1, h2⟩ := len_pack (m := m) hT hm
  have h3 := h.1
  rw [rawB_length] at h3
  have e := numB_raw (m := m) h n (Nat.le_refl _)
  rw [Nat.sub_self, Nat.pow_zero, Nat.div_one, Nat.mod_eq_of_lt hv] at e
  have g := get_p (b := packB T ++ m) (a := a) (m := n) h1 hb (by omega) hn (by omega)
  rw [e] at g
  unfold bits_Reader_Get.f
  simp only [if_neg (show ¬ (n : Int) < 0 by omega)]
  rw [decide_eq_false (show ¬ (n : Int) > 32 by omega)]
  exact g
theorem unary_back {T : List Bool} {m : List Int} {a n : Nat} (hT : T.length ≤ 8388608) (hm : m.length ≤ 400) (hb : ∀ y ∈ packB T ++ m, 0 ≤ y ∧ y ≤ 255) (hn : n ≤ 2000) (h : At T a (zerosB n)) : Ev (fun k => bits_Reader_Unary.f k (packB T ++ m) (a : Int) 2000) ((n : Int), 0, ((a + n + 1 : Nat) : Int)) := by
  obtain ⟨h1, h2⟩ := len_pack (m := m) hT hm
  have z := zeros_ev h1 hb 2000 (by omega) h
  unfold bits_Reader_Unary.f
  simp only [if_neg (show ¬ (2000 : Int) < 0 by decide)]
  refine Ev.bind z ?_
  simp only [if_true]
  exact Ev.now _
theorem rice_back {T : List Bool} {m : List Int} {a k v : Nat} (hT : T.length ≤ 8388608) (hm : m.length ≤ 400) (hb : ∀ y ∈ packB T ++ m, 0 ≤ y ∧ y ≤ 255) (hk : k ≤ 24) (hv : v ≤ 9223372036854775807) (hz : v / 2 ^ k ≤ 65535) (h : At T a (zerosB (v / 2 ^ k) ++ rawB (v : Int) k)) : Ev (fun q => bits_Reader_Rice.f q (packB T ++ m) (a : Int) (k : Int) (v : Int)) ((v : Int), 0, ((a + v / 2 ^ k + 1 + k : Nat) : Int)) := by
  obtain ⟨h1, h2⟩ := len_pack (m := m) hT hm
  have hl := h.left
  have hr := h.right
  have hT2 := h.1
  simp only [zerosB, List.length_append, List.length_replicate, List.length_singleton, rawB_length] at hT2
  have ez : ((v : Int) / 2 ^ k) = ((v / 2 ^ k : Nat) : Int) := by norm_cast
  have e := numB_raw (m := m) hr k (Nat.le_refl _)
  rw [Nat.sub_self, Nat.pow_zero, Nat.div_one] at e
  have hlen : (zerosB (v / 2 ^ k)).length = v / 2 ^ k + 1 := by simp [zerosB]
  rw [hlen] at e
  have hv2 : v / 2 ^ k * 2 ^ k + v % 2 ^ k = v := by rw [Nat.mul_comm]; exact Nat.div_add_mod v (2 ^ k)
  have hlt : v % 2 ^ k < 2 ^ k := Nat.mod_lt _ (Nat.two_pow_pos k)
  obtain ⟨j1, _, _⟩ := join_i64 (n := v / 2 ^ k) (w := v % 2 ^ k) (k := k) (Nat.lt_of_le_of_lt hz (by decide)) (Nat.le_trans hk (by decide)) hlt
  rw [hv2] at j1
  have z := zeros_ev h1 hb ((v : Int) / 2 ^ k) (by rw [ez]; exact Int.le_refl _) hl
  rw [← Nat.add_assoc] at e
  clear hl hr h hlen hv2 hlt ez
  generalize v / 2 ^ k = y at *
  have hq : ¬ (((8 * (packB T ++ m).length - (a + y + 1) : Nat) : Int) < (k : Int)) := by clear e j1 z hb; omega
  have hq2 : a + y < 8 * (packB T ++ m).length := by clear e j1 z hb; omega
  have hq3 : a + y + 1 + k ≤ 8 * (packB T ++ m).length := by clear e j1 z hb; omega
  have hpl : wrap64 (((a + y + 1 : Nat) : Int) + (k : Int)) = ((a + y + 1 + k : Nat) : Int) := by clear e j1 z hb; rw [w64 (by omega) (by omega)]; omega
  have main : Ev (fun q => riceP (packB T ++ m) a k (v : Int) q) ((v : Int), 0, ((a + y + 1 + k : Nat) : Int)) := by
    unfold riceP
    refine Ev.bind z ?_
    simp only [if_true]
    rw [bit_left h1 hq2]
    simp only [if_neg hq]
    refine Ev.bind (raw_ev (a : Int) h1 hb (Nat.le_trans hk (by decide)) hq3) ?_
    simp only
    rw [e, j1]
    simp only [if_neg (Int.lt_irrefl (v : Int)), hpl]
    exact Ev.now _
  unfold bits_Reader_Rice.f
  clear e j1 z hb hq hq2 hq3 hpl
  simp only [if_neg (show ¬ (k : Int) < 0 by omega), if_neg (show ¬ (k : Int) > 24 by omega)]
  rw [decide_eq_false (show ¬ (v : Int) < 0 by omega)]
  exact Ev.step (fun q => rice_p hk) main
theorem grow_back {T : List Bool} {m : List Int} {a v n : Nat} (hT : T.length ≤ 8388608) (hm : m.length ≤ 400) (hb : ∀ y ∈ packB T ++ m, 0 ≤ y ∧ y ≤ 255) (hv : v ≤ 4294967294) (hn : n ≤ 31) (h1' : 2 ^ n ≤ v + 1) (h2' : v + 1 < 2 ^ (n + 1)) (h : At T a (zerosB n ++ rawB ((v : Int) + 1) n)) : Ev (fun q => bits_Reader_Grow.f q (packB T ++ m) (a : Int)) ((v : Int), 0, ((a + n + 1 + n : Nat) : Int)) := by
  obtain ⟨h1, h2⟩ := len_pack (m := m) hT hm
  have hl := h.left
  have hr := h.right
  have hT2 := h.1
  simp only [zerosB, List.length_append, List.length_replicate, List.length_singleton, rawB_length] at hT2
  have e := numB_raw (v := v + 1) (m := m) hr n (Nat.le_refl _)
  rw [Nat.sub_self, Nat.pow_zero, Nat.div_one] at e
  have hlen : (zerosB n).length = n + 1 := by simp [zerosB]
  rw [hlen, ← Nat.add_assoc] at e
  have hlt : (v + 1) % 2 ^ n < 2 ^ n := Nat.mod_lt _ (Nat.two_pow_pos n)
  have hv2 : 1 * 2 ^ n + (v + 1) % 2 ^ n = v + 1 := by
    rw [Nat.pow_succ] at h2'
    have h9 : (v + 1) % 2 ^ n = v + 1 - 2 ^ n := by
      rw [Nat.mod_eq_sub_mod h1', Nat.mod_eq_of_lt (by clear e hT2 hl hr h hlt; generalize 2 ^ n = t at *; omega)]
    rw [h9]
    clear e hT2 hl hr h hlt h9
    generalize 2 ^ n = t at *
    omega
  obtain ⟨j1, _, _⟩ := join_i64 (n := 1) (w := (v + 1) % 2 ^ n) (k := n) (by decide) (Nat.le_trans hn (by decide)) hlt
  rw [hv2] at j1
  have z := zeros_ev h1 hb 32 (Int.le_trans (Int.ofNat_le.mpr hn) (by decide)) hl
  clear hl hr h hlen hlt hv2 h1' h2'
  have hq : ¬ (((8 * (packB T ++ m).length - (a + n + 1) : Nat) : Int) < (n : Int)) := by clear e j1 z hb; omega
  have hq2 : a + n < 8 * (packB T ++ m).length := by clear e j1 z hb; omega
  have hq3 : a + n + 1 + n ≤ 8 * (packB T ++ m).length := by clear e j1 z hb; omega
  have hq4 : ¬ ((v : Int) > 4294967294) := by clear e j1 z hb; omega
  have hpl : wrap64 (((a + n + 1 : Nat) : Int) + (n : Int)) = ((a + n + 1 + n : Nat) : Int) := by clear e j1 z hb; rw [w64 (by omega) (by omega)]; omega
  have hmi : wrap64 (((v + 1 : Nat) : Int) - 1) = (v : Int) := by clear e j1 z hb; rw [w64 (by omega) (by omega)]; omega
  unfold bits_Reader_Grow.f
  refine Ev.bind z ?_
  simp only [if_true]
  rw [bit_left h1 hq2]
  simp only [if_neg hq, if_pos (Int.natCast_nonneg n)]
  refine Ev.bind (raw_ev (a : Int) h1 hb (Nat.le_trans hn (by decide)) hq3) ?_
  simp only
  rw [e]
  have j2 : Go.bits .or .i64 (shl .i64 1 (n : Int)) (((v + 1) % 2 ^ n : Nat) : Int) = ((v + 1 : Nat) : Int) := j1
  rw [j2, hmi]
  simp only [if_neg hq4, hpl]
  exact Ev.now _
end Go.Proofs.Ytlhdfdedhdcmiaa.Pure
namespace Go.Proofs.Ytlhdfdedhdcmiaa.Pure
open Go.RowKit Go.Proofs.Ytlhdfdedhdcmiaa.QBits Go.Proofs.YtlhdfdedhdcmiaaW.PrintWords Go.Proofs.YtlhdfdedhdcmiaaW.PrintMore Go.Proofs.YtlhdfdedhdcmiaaV
theorem range_pack {T : List Bool} {m : List Int} (hm : ∀ y ∈ m, 0 ≤ y ∧ y ≤ 255) : ∀ y ∈ packB T ++ m, 0 ≤ y ∧ y ≤ 255 := by
  intro y hy
  rcases List.mem_append.mp hy with h | h
  · exact packB_range T y h
  · exact hm y h
theorem Ev.want {P : Nat → Option (Int × Int × Int)} {v : Int} {a : Int} (h : Ev P (v, 0, a)) : Ev (fun k => (P k).bind fun p => if p.1 = v ∧ p.2.1 = 0 then some p.2.2 else none) a := by
  refine Ev.bind h ?_
  simp only [and_self, if_true]
  exact Ev.now _
theorem put_step {m : List Int} {P R : List Bool} (hm : m.length ≤ 400) (hb : ∀ y ∈ m, 0 ≤ y ∧ y ≤ 255) (v n : Int) (hw : (putF v n P).1 = 0) (hT : ((putF v n P).2 ++ R).length ≤ 8388608) :
    Ev (fun k => (bits_Reader_Get.f k (packB ((putF v n P).2 ++ R) ++ m) (P.length : Int) n).bind fun p => if p.1 = v ∧ p.2.1 = 0 then some p.2.2 else none) ((putF v n P).2.length : Int) := by
  by_cases c1 : n < 0
  · simp [putF, c1] at hw
  by_cases c2 : 32 < n
  · simp [putF, c1, c2] at hw
  by_cases c3 : v < 0
  · simp [putF, c1, c2, c3] at hw
  by_cases c4 : 0 < v / 2 ^ n.toNat
  · simp [putF, c1, c2, c3, c4] at hw
  by_cases c5 : (P.length : Int) + n ≤ 8388608
  · obtain ⟨n, rfl⟩ := Int.eq_ofNat_of_zero_le (show 0 ≤ n by omega)
    obtain ⟨v, rfl⟩ := Int.eq_ofNat_of_zero_le (show 0 ≤ v by omega)
    have e : putF (v : Int) (n : Int) P = (0, P ++ rawB (v : Int) n) := by unfold putF; rw [if_neg c1, if_neg c2, if_neg c3, if_neg c4, if_pos c5, Int.toNat_natCast]
    rw [e] at hT ⊢
    rw [Int.toNat_natCast] at c4
    have hv : v < 2 ^ n := by
      have h1 : ((v : Int) / 2 ^ n) = ((v / 2 ^ n : Nat) : Int) := by norm_cast
      rw [h1] at c4
      have h2 : v / 2 ^ n = 0 := Nat.eq_zero_of_not_pos (fun h => c4 (Int.ofNat_lt.mpr h))
      exact (Nat.div_eq_zero_iff_lt (Nat.two_pow_pos n)).mp h2
    have g := Ev.want (get_back (m := m) hT hm (range_pack hb) (by omega) hv (At.mk' P (rawB (v : Int) n) R))
    rw [List.length_append, rawB_length]
    exact g
  · simp [putF, c1, c2, c3, c4, c5] at hw
theorem unary_step {m : List Int} {P R : List Bool} (hm : m.length ≤ 400) (hb : ∀ y ∈ m, 0 ≤ y ∧ y ≤ 255) (n : Int) (hn : n ≤ 2000) (hw : (unaryF n P).1 = 0) (hT : ((unaryF n P).2 ++ R).length ≤ 8388608) :
    Ev (fun k => (bits_Reader_Unary.f k (packB ((unaryF n P).2 ++ R) ++ m) (P.length : Int) 2000).bind fun p => if p.1 = n ∧ p.2.1 = 0 then some p.2.2 else none) ((unaryF n P).2.length : Int) := by
  by_cases c1 : n < 0
  · simp [unaryF, c1] at hw
  by_cases c2 : 65535 < n
  · simp [unaryF, c1, c2] at hw
  by_cases c5 : (P.length : Int) + (n + 1) ≤ 8388608
  · obtain ⟨n, rfl⟩ := Int.eq_ofNat_of_zero_le (show 0 ≤ n by omega)
    have e : unaryF (n : Int) P = (0, P ++ zerosB n) := by unfold unaryF; rw [if_neg c1, if_neg c2, if_pos c5, Int.toNat_natCast]
    rw [e] at hT ⊢
    have g := Ev.want (unary_back (m := m) hT hm (range_pack hb) (by omega) (At.mk' P (zerosB n) R))
    have hl : (P ++ zerosB n).length = P.length + n + 1 := by simp [zerosB]; omega
    simp only [hl]
    exact g
  · simp [unaryF, c1, c2, c5] at hw
theorem rice_step {m : List Int} {P R : List Bool} (hm : m.length ≤ 400) (hb : ∀ y ∈ m, 0 ≤ y ∧ y ≤ 255) (v k : Int) (hv1 : v ≤ 9223372036854775807) (hw : (riceF v k P).1 = 0) (hT : ((riceF v k P).2 ++ R).length ≤ 8388608) :
    Ev (fun q => (bits_Reader_Rice.f q (packB ((riceF v k P).2 ++ R) ++ m) (P.length : Int) k v).bind fun p => if p.1 = v ∧ p.2.1 = 0 then some p.2.2 else none) ((riceF v k P).2.length : Int) := by
  by_cases c1 : k < 0
  · simp [riceF, c1] at hw
  by_cases c2 : 24 < k
  · simp [riceF, c1, c2] at hw
  by_cases c3 : v < 0
  · simp [riceF, c1, c2, c3] at hw
  by_cases c4 : 65535 < v / 2 ^ k.toNat
  · simp [riceF, c1, c2, c3, c4] at hw
  by_cases c5 : (P.length : Int) + (v / 2 ^ k.toNat + 1 + k) ≤ 8388608
  · obtain ⟨k, rfl⟩ := Int.eq_ofNat_of_zero_le (show 0 ≤ k by omega)
    obtain ⟨v, rfl⟩ := Int.eq_ofNat_of_zero_le (show 0 ≤ v by omega)
    have h1 : ((v : Int) / 2 ^ k) = ((v / 2 ^ k : Nat) : Int) := by norm_cast
    have e : riceF (v : Int) (k : Int) P = (0, P ++ (zerosB (v / 2 ^ k) ++ rawB (v : Int) k)) := by unfold riceF; rw [if_neg c1, if_neg c2, if_neg c3, if_neg c4, if_pos c5, Int.toNat_natCast, h1, Int.toNat_natCast, List.append_assoc]
    rw [e] at hT ⊢
    rw [Int.toNat_natCast, h1] at c4
    have g := Ev.want (rice_back (m := m) hT hm (range_pack hb) (by omega) (by omega) (Int.ofNat_le.mp (Int.not_lt.mp c4)) (At.mk' P (zerosB (v / 2 ^ k) ++ rawB (v : Int) k) R))
    have hl : (P ++ (zerosB (v / 2 ^ k) ++ rawB (v : Int) k)).length = P.length + v / 2 ^ k + 1 + k := by simp [zerosB, rawB_length]; omega
    simp only [hl]
    exact g
  · simp [riceF, c1, c2, c3, c4, c5] at hw
theorem grow_step {m : List Int} {P R : List Bool} (hm : m.length ≤ 400) (hb : ∀ y ∈ m, 0 ≤ y ∧ y ≤ 255) (v : Int) (hw : (growF v P).1 = 0) (hT : ((growF v P).2 ++ R).length ≤ 8388608) :
    Ev (fun q => (bits_Reader_Grow.f q (packB ((growF v P).2 ++ R) ++ m) (P.length : Int)).bind fun p => if p.1 = v ∧ p.2.1 = 0 then some p.2.2 else none) ((growF v P).2.length : Int) := by
  by_cases c1 : v < 0
  · simp [growF, c1] at hw
  by_cases c2 : 4294967294 < v
  · simp [growF, c1, c2] at hw
  by_cases c5 : (P.length : Int) + (2 * (Lib.bitLen (v + 1).toNat : Int) - 1) ≤ 8388608
  · obtain ⟨v, rfl⟩ := Int.eq_ofNat_of_zero_le (show 0 ≤ v by omega)
    have ev : ((v : Int) + 1).toNat = v + 1 := by omega
    have hbl := Lib.bitLenAux_bounds 64 (v + 1) (by omega) (by omega)
    have h32 : Lib.bitLen (v + 1) ≤ 32 := by
      have := Go.Proofs.Any.bitLen_le32 ((v : Int) + 1) (by omega) (by omega)
      rwa [ev] at this
    rw [ev] at c5
    have hz : Lib.bitLen (v + 1) = Lib.bitLenAux 64 (v + 1) := rfl
    rw [← hz] at hbl
    have e : growF (v : Int) P = (0, P ++ (zerosB (Lib.bitLen (v + 1) - 1) ++ rawB ((v : Int) + 1) (Lib.bitLen (v + 1) - 1))) := by unfold growF; rw [ev, if_neg c1, if_neg c2, if_pos c5, List.append_assoc]
    rw [e] at hT ⊢
    generalize hzz : Lib.bitLen (v + 1) = z at *
    obtain ⟨n, rfl⟩ : ∃ n, z = n + 1 := ⟨z - 1, by omega⟩
    rw [Nat.add_sub_cancel] at hT hbl ⊢
    have g := Ev.want (grow_back (m := m) hT hm (range_pack hb) (by omega) (by omega) hbl.2.1 hbl.2.2 (At.mk' P (zerosB n ++ rawB ((v : Int) + 1) n) R))
    have hl : (P ++ (zerosB n ++ rawB ((v : Int) + 1) n)).length = P.length + n + 1 + n := by simp [zerosB, rawB_length]; omega
    simp only [hl]
    exact g
  · simp [growF, c1, c2, c5] at hw
theorem back_step {m : List Int} {P R : List Bool} (hm : m.length ≤ 400) (hb : ∀ y ∈ m, 0 ≤ y ∧ y ≤ 255) (o : S56) (hs : skipB o = false) (hv1 : o.f2 ≤ 9223372036854775807) (hw : (writeF o P).1 = 0) (hT : ((writeF o P).2 ++ R).length ≤ 8388608) :
    Ev (fun k => backStep k (packB ((writeF o P).2 ++ R) ++ m) (P.length : Int) o) ((writeF o P).2.length : Int) := by
  unfold backStep writeF at *
  by_cases d0 : o.f0 = 0
  · simp only [if_pos d0] at *; exact put_step hm hb _ _ hw hT
  · simp only [if_neg d0] at *
    by_cases d1 : o.f0 = 1
    · simp only [if_pos d1] at *
      have hn : o.f1 ≤ 2000 := by
        simp [skipB, d1] at hs
        omega
      exact unary_step hm hb _ hn hw hT
    · simp only [if_neg d1] at *
      by_cases d2 : o.f0 = 2
      · simp only [if_pos d2] at *; exact rice_step hm hb _ _ hv1 hw hT
      · simp only [if_neg d2] at *
        by_cases d3 : o.f0 = 3
        · simp only [if_pos d3] at *; exact grow_step hm hb _ hw hT
        · simp only [if_neg d3] at *
          have hl := alignB_length P
          have h9 : (alignB P).length ≤ 8388608 := by rw [List.length_append] at hT; omega
          have hP : P.length ≤ 8388608 := by omega
          refine ⟨0, fun k _ => ?_⟩
          show bits_Reader_Align.f _ _ = _
          unfold bits_Reader_Align.f
          rw [hl, show wrap64 ((P.length : Int) + 7) = ((P.length + 7 : Nat) : Int) by rw [w64 (by omega) (by omega)]; omega, Int.tdiv_eq_ediv_of_nonneg (by omega)]
          congr 1
          rw [w64 (x := ((P.length + 7 : Nat) : Int) / 8) (by omega) (by omega), w64 (by omega) (by omega)]
          omega
theorem writeF_pre (o : S56) (P : List Bool) : ∃ X, (writeF o P).2 = P ++ X ∧ ((writeF o P).1 ≠ 0 → X = []) := by
  unfold writeF
  (repeat' split)
  · unfold putF; (repeat' split) <;> first | exact ⟨_, rfl, fun h => absurd rfl h⟩ | exact ⟨[], (List.append_nil _).symm, fun _ => rfl⟩
  · unfold unaryF; (repeat' split) <;> first | exact ⟨_, rfl, fun h => absurd rfl h⟩ | exact ⟨[], (List.append_nil _).symm, fun _ => rfl⟩
  · unfold riceF; (repeat' split) <;> first | exact ⟨_, List.append_assoc _ _ _, fun h => absurd rfl h⟩ | exact ⟨[], (List.append_nil _).symm, fun _ => rfl⟩
  · unfold growF; (repeat' split) <;> first | exact ⟨_, List.append_assoc _ _ _, fun h => absurd rfl h⟩ | exact ⟨[], (List.append_nil _).symm, fun _ => rfl⟩
  · exact ⟨_, rfl, fun h => absurd rfl h⟩
/-- The calls done are a list; what they wrote from P on, and reading them back from P's end on. -/
theorem doneF_back {m : List Int} (hm : m.length ≤ 400) (hb : ∀ y ∈ m, 0 ≤ y ∧ y ≤ 255) : ∀ (l : List S56) (ds : List S56) (P : List Bool), P.length ≤ 8388608 → (∀ o ∈ l, o.f2 ≤ 9223372036854775807) →
    ∃ ds' X, doneF l (ds, P) = (ds ++ ds', P ++ X) ∧ (P ++ X).length ≤ 8388608 ∧ ∀ R, (P ++ X ++ R).length ≤ 8388608 → Ev (fun k => backLoop k (packB (P ++ X ++ R) ++ m) (P.length : Int) ds') ((P ++ X).length : Int)
  | [], ds, P, hP, _ => ⟨[], [], by simp [doneF], by simpa using hP, fun R _ => by simp only [List.append_nil, backLoop]; exact Ev.now _⟩
  | o :: t, ds, P, hP, ho => by
    by_cases hs : skipB o = true
    · obtain ⟨ds', X, h1, h2, h3⟩ := doneF_back hm hb t ds P hP (fun x hx => ho x (by simp [hx]))
      exact ⟨ds', X, by simp only [doneF, if_pos hs]; exact h1, h2, h3⟩
    · have hs' : skipB o = false := by simpa using hs
      obtain ⟨X0, e0, e1⟩ := writeF_pre o P
      have hlen := writeF_length o P hP (ho o (by simp))
      by_cases hw : (writeF o P).1 = 0
      · obtain ⟨ds', X, h1, h2, h3⟩ := doneF_back hm hb t (ds ++ [o]) (writeF o P).2 hlen (fun x hx => ho x (by simp [hx]))
        refine ⟨o :: ds', X0 ++ X, ?_, ?_, ?_⟩
        · simp only [doneF, hs', if_pos hw]
          simp only [Bool.false_eq_true, if_false]
          rw [h1, e0, List.append_assoc, List.append_assoc]
          rfl
        · rw [← List.append_assoc, ← e0]; exact h2
        · intro R hR
          rw [← List.append_assoc, ← e0] at hR ⊢
          simp only [backLoop]
          have s := back_step (R := X ++ R) hm hb o hs' (ho o (by simp)) hw (by rw [← List.append_assoc]; exact hR)
          rw [← List.append_assoc] at s
          exact Ev.bind s (h3 R hR)
      · have hX := e1 hw
        rw [hX, List.append_nil] at e0
        obtain ⟨ds', X, h1, h2, h3⟩ := doneF_back hm hb t ds P hP (fun x hx => ho x (by simp [hx]))
        refine ⟨ds', X, ?_, h2, h3⟩
        simp only [doneF, hs', if_neg hw]
        simp only [Bool.false_eq_true, if_false]
        rw [e0]; exact h1
theorem BitsBack : ∀ (l0 : List (S56)) (l1 : List (Int)), l0.length ≤ maxLen → (∀ x0 ∈ l0, ((Lit.int .i64 x0.f0).wf = true) ∧ ((Lit.int .i64 x0.f1).wf = true) ∧ ((Lit.int .i64 x0.f2).wf = true)) → l1.length ≤ maxLen → (∀ x0 ∈ l1, (Lit.int .u8 x0).wf = true) → ∃ k, dioramalaw01_BitsBack.f k l0 l1 = some true := by
  intro l m _ hl _ hmm
  apply Ev.rounds (g := fun k => dioramalaw01_BitsBack.f k l m)
  unfold dioramalaw01_BitsBack.f
  by_cases h : (l.length : Int) > 200
  · simp only [if_pos h]; exact Ev.now _
  · simp only [if_neg h]
    by_cases h' : (m.length : Int) > 400
    · simp only [if_pos h']; exact Ev.now _
    · simp only [if_neg h']
      have h2 : opsOk l = true := List.all_eq_true.mpr (fun o ho => by
        have h3 := hl o ho
        have h4 := (i64b h3.2.1).2
        have h5 := (i64b h3.2.2).2
        simp [h4, h5])
      simp only [if_pos h2]
      obtain ⟨ds', X, e1, e2, e3⟩ := doneF_back (m := m) (by omega) (fun y hy => u8b (hmm y hy)) l [] [] (by simp) (fun o ho => (i64b (hl o ho).2.2).2)
      rw [e1]
      simp only [List.nil_append] at e2 e3 ⊢
      refine Ev.bind (copyb_ev (l := packB X) ?_) ?_
      · rw [packB_length]; omega
      simp only [if_true]
      have e4 := e3 [] (by simpa using e2)
      rw [List.append_nil] at e4
      refine Ev.bind e4 ?_
      simp only [if_true]
      exact awake_ev
end Go.Proofs.Ytlhdfdedhdcmiaa.Pure
