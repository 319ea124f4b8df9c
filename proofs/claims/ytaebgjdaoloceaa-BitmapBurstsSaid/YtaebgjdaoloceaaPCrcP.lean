/- A lemma file: the check sum is linear, and a burst of at most 32 bits changes it. No condition. -/
import Derived.Test.YtaebgjdaoloceaaPSumP
namespace Go.Proofs.Ytaebgjdaoloceaa.Pure
open Go.RowKit Go.Proofs.Ytaebgjdaoloceaa.QBmpB Go.Proofs.YtaebgjdaoloceaaW.PrintWords Go.Proofs.YtaebgjdaoloceaaV
theorem xor_mod2 (a b : Nat) : (a ^^^ b) % 2 = (a % 2 + b % 2) % 2 := by
  have h := Nat.xor_mod_two_pow (a := a) (b := b) (n := 1)
  simp only [Nat.pow_one] at h
  rw [h]
  rcases Nat.mod_two_eq_zero_or_one a with ha | ha <;> rcases Nat.mod_two_eq_zero_or_one b with hb | hb <;> rw [ha, hb] <;> decide
theorem xor_div2 (a b : Nat) : (a ^^^ b) / 2 = a / 2 ^^^ b / 2 := by
  have h := Nat.xor_div_two_pow (a := a) (b := b) (n := 1)
  simpa only [Nat.pow_one] using h
theorem crcBit_xor (a b : Nat) : crcBit (a ^^^ b) = crcBit a ^^^ crcBit b := by
  unfold crcBit
  rw [xor_div2]
  have hm := xor_mod2 a b
  by_cases ha : a % 2 = 1 <;> by_cases hb : b % 2 = 1
  · rw [if_neg (by omega), if_pos ha, if_pos hb]
    rw [Nat.xor_assoc (a / 2), ← Nat.xor_assoc 3558460437 (b / 2), Nat.xor_comm 3558460437 (b / 2), Nat.xor_assoc (b / 2), Nat.xor_self, Nat.xor_zero]
  · rw [if_pos (by omega), if_pos ha, if_neg hb, Nat.xor_assoc, Nat.xor_assoc, Nat.xor_comm (b / 2)]
  · rw [if_pos (by omega), if_neg ha, if_pos hb, Nat.xor_assoc]
  · rw [if_neg (by omega), if_neg ha, if_neg hb]
theorem crcBits_xor : ∀ (n a b : Nat), crcBits n (a ^^^ b) = crcBits n a ^^^ crcBits n b
  | 0, _, _ => rfl
  | n + 1, a, b => by show crcBits n (crcBit (a ^^^ b)) = _; rw [crcBit_xor, crcBits_xor n]; rfl
theorem crcBits_add : ∀ (a b x : Nat), crcBits (a + b) x = crcBits b (crcBits a x)
  | 0, b, x => by rw [Nat.zero_add]; rfl
  | a + 1, b, x => by rw [show a + 1 + b = (a + b) + 1 by omega]; exact crcBits_add a b (crcBit x)
theorem crcBits_zero : ∀ n, crcBits n 0 = 0
  | 0 => rfl
  | n + 1 => crcBits_zero n
theorem crcBit_two (y : Nat) : crcBit (2 * y) = y := by unfold crcBit; rw [if_neg (by omega)]; omega
theorem crcBits_pow : ∀ (n r : Nat), crcBits n (2 ^ n * r) = r
  | 0, r => by simp [crcBits]
  | n + 1, r => by
    show crcBits n (crcBit (2 ^ (n + 1) * r)) = r
    rw [Nat.pow_succ, Nat.mul_comm (2 ^ n) 2, Nat.mul_assoc, crcBit_two]
    exact crcBits_pow n r
theorem crcBits_ne : ∀ (n : Nat) {b : Nat}, b ≠ 0 → b < 4294967296 → crcBits n b ≠ 0
  | 0, _, h, _ => h
  | n + 1, b, h, hb => by
    refine crcBits_ne n ?_ (crcBit_lt hb)
    unfold crcBit
    by_cases h1 : b % 2 = 1
    · rw [if_pos h1]
      intro e
      have h2 : b / 2 = 3558460437 := by
        have := congrArg (· ^^^ 3558460437) e
        simp only [Nat.xor_assoc, Nat.xor_self, Nat.xor_zero, Nat.zero_xor] at this
        exact this
      omega
    · rw [if_neg h1]; omega
/-- Bytes as one number, the first ones lowest. -/
def le : List Int → Nat
  | [] => 0
  | c :: t => c.toNat ^^^ (256 * le t)
theorem crc_le : ∀ (l : List Int) (s : Nat), crc s l = crcBits (8 * l.length) (s ^^^ le l)
  | [], s => by simp [crc, crcBits, le]
  | c :: t, s => by
    show crc (crcBits 8 (s ^^^ c.toNat)) t = _
    rw [crc_le t]
    have h : crcBits 8 (s ^^^ c.toNat) ^^^ le t = crcBits 8 (s ^^^ le (c :: t)) := by
      have h2 : crcBits 8 (256 * le t) = le t := crcBits_pow 8 (le t)
      conv => lhs; rw [← h2]
      rw [← crcBits_xor, Nat.xor_assoc]
      rfl
    rw [h, ← crcBits_add, List.length_cons, show 8 + 8 * t.length = 8 * (t.length + 1) by omega]
theorem xor_cancel {a b c : Nat} : a ^^^ b = a ^^^ c ↔ b = c := by
  constructor
  · intro h
    have := congrArg (a ^^^ ·) h
    simpa only [← Nat.xor_assoc, Nat.xor_self, Nat.zero_xor] using this
  · rintro rfl; rfl
/-- Two lists of one length have one sum just where the numbers' difference leaves nothing. -/
theorem sumS_eq {l l' : List Int} (h : l.length = l'.length) : sumS l = sumS l' ↔ crcBits (8 * l.length) (le l ^^^ le l') = 0 := by
  unfold sumS
  rw [crc_le, crc_le, ← h]
  rw [Int.ofNat_inj, Nat.xor_comm _ 4294967295, Nat.xor_comm _ 4294967295, xor_cancel, crcBits_xor, crcBits_xor, xor_cancel, crcBits_xor]
  constructor
  · intro e; rw [e, Nat.xor_self]
  · intro e
    have := congrArg (crcBits (8 * l.length) (le l) ^^^ ·) e
    simp only [← Nat.xor_assoc, Nat.xor_self, Nat.zero_xor, Nat.xor_zero] at this
    exact this.symm
theorem mul_xor (n a b : Nat) : 2 ^ n * (a ^^^ b) = 2 ^ n * a ^^^ 2 ^ n * b := by
  have := Nat.shiftLeft_xor_distrib (a := a) (b := b) (i := n)
  simpa only [Nat.shiftLeft_eq, Nat.mul_comm] using this
/-- A bit that is turned. -/
theorem le_set : ∀ (l : List Int) (i m : Nat), i < l.length → (∀ y ∈ l, 0 ≤ y) → le (l.set i (((rd l i).toNat ^^^ m : Nat) : Int)) = le l ^^^ (2 ^ (8 * i) * m)
  | [], i, m, h, _ => by simp at h
  | c :: t, 0, m, _, h => by
    simp only [List.set_cons_zero, le, Nat.mul_zero, Nat.pow_zero, Nat.one_mul]
    have : (rd (c :: t) ((0 : Nat) : Int)).toNat = c.toNat := rfl
    rw [this, Int.toNat_natCast, Nat.xor_assoc, Nat.xor_assoc, Nat.xor_comm m]
  | c :: t, i + 1, m, hi, h => by
    simp only [List.set_cons_succ, le]
    have e : rd (c :: t) ((i + 1 : Nat) : Int) = rd t (i : Nat) := by simp [rd]
    have e256 : ∀ x, 256 * x = 2 ^ 8 * x := fun _ => rfl
    rw [e, le_set t i m (by simpa using hi) (fun y hy => h y (List.mem_cons_of_mem _ hy)), e256, mul_xor, ← e256, Nat.xor_assoc, ← Nat.mul_assoc, ← Nat.pow_add, show 8 + 8 * i = 8 * (i + 1) by omega]
theorem burst_ne {n at_ b : Nat} (h : at_ ≤ n) (hb : b ≠ 0) (hb2 : b < 4294967296) : crcBits n (2 ^ at_ * b) ≠ 0 := by
  rw [show n = at_ + (n - at_) by omega, crcBits_add, crcBits_pow]
  exact crcBits_ne _ hb hb2
end Go.Proofs.Ytaebgjdaoloceaa.Pure
