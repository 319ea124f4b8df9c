/- A lemma file: the check sum of bytes, of the program and of the reference, is one function on lists. No condition. -/
import Derived.Test.YtaebgjdaoloceaaVPlain
import Derived.Test.YtaebgjdaoloceaaQBmpPx3
namespace Go.Proofs.Ytaebgjdaoloceaa.Pure
open Go.RowKit Go.Proofs.Ytaebgjdaoloceaa.QBmpP Go.Proofs.YtaebgjdaoloceaaW.PrintWords Go.Proofs.YtaebgjdaoloceaaV
def crcBit (s : Nat) : Nat := if s % 2 = 1 then (s / 2) ^^^ 3558460437 else s / 2
def crcBits : Nat → Nat → Nat
  | 0, s => s
  | n + 1, s => crcBits n (crcBit s)
def crc (s : Nat) (l : List Int) : Nat := l.foldl (fun s c => crcBits 8 (s ^^^ c.toNat)) s
def sumS (l : List Int) : Int := ((crc 4294967295 l ^^^ 4294967295 : Nat) : Int)
theorem xor_lt32 {a b : Nat} (ha : a < 4294967296) (hb : b < 4294967296) : a ^^^ b < 4294967296 := Nat.xor_lt_two_pow (n := 32) ha hb
theorem crcBit_lt {s : Nat} (h : s < 4294967296) : crcBit s < 4294967296 := by
  unfold crcBit
  split
  · exact xor_lt32 (by omega) (by decide)
  · omega
theorem crcBits_lt : ∀ (n : Nat) {s : Nat}, s < 4294967296 → crcBits n s < 4294967296
  | 0, _, h => h
  | n + 1, _, h => crcBits_lt n (crcBit_lt h)
theorem crc_lt : ∀ (l : List Int) {s : Nat}, s < 4294967296 → (∀ y ∈ l, 0 ≤ y ∧ y ≤ 255) → crc s l < 4294967296
  | [], _, h, _ => h
  | c :: l, s, h, hl => by
    show crc (crcBits 8 (s ^^^ c.toNat)) l < _
    have := hl c (by simp)
    exact crc_lt l (crcBits_lt 8 (xor_lt32 h (by omega))) (fun y hy => hl y (List.mem_cons_of_mem _ hy))
theorem and1_u32 {s : Nat} (h : s < 4294967296) : Go.bits .and .u32 (s : Int) 1 = ((s % 2 : Nat) : Int) := by
  have := u32_and_nat s 1 h (by decide)
  rw [nat_mask1] at this
  exact this
theorem sum_l1 {y : List Int} {len i r : Int} : ∀ (n : Nat), n ≤ 8 → ∀ (s : Nat), s < 4294967296 → Ev (fun k => bits_Sum.l0 k (crcBits n s : Nat) y len (wrap64 (i + 1))) r → Ev (fun k => bits_Sum.l1 k (s : Int) y len i (8 - (n : Int))) r
  | 0, _, s, _, h => Ev.step (fun k => by simp only [bits_Sum.l1]; rw [if_neg (by omega)]; rfl) h
  | n + 1, hn, s, hs, h => by
    refine Ev.step (f := fun k => bits_Sum.l1 k ((crcBit s : Nat) : Int) y len i (8 - (n : Int))) (fun k => ?_) (sum_l1 n (by omega) _ (crcBit_lt hs) h)
    simp only [bits_Sum.l1]
    rw [if_pos (by omega), and1_u32 hs, w64 (by omega) (by omega)]
    have e : (8 - ((n + 1 : Nat) : Int)) + 1 = 8 - (n : Int) := by omega
    rw [e]
    unfold crcBit
    by_cases h1 : s % 2 = 1
    · rw [if_pos (by omega), if_pos h1]
      have this : Go.bits .xor .u32 ((s / 2 : Nat) : Int) 3558460437 = ((s / 2 ^^^ 3558460437 : Nat) : Int) := u32_xor_nat (s / 2) 3558460437 (by omega) (by decide)
      have e2 : ((s : Int) / 2) = ((s / 2 : Nat) : Int) := by omega
      rw [e2]
      rw [this]
    · rw [if_neg (by omega), if_neg h1]
      have e2 : ((s : Int) / 2) = ((s / 2 : Nat) : Int) := by omega
      rw [e2]
theorem sum_l0 : ∀ (t pre : List Int) (s : Nat), s < 4294967296 → (∀ y ∈ t, 0 ≤ y ∧ y ≤ 255) → (pre ++ t).length ≤ 9223372036854775807 → Ev (fun k => bits_Sum.l0 k (s : Int) (pre ++ t) ((pre ++ t).length : Int) (pre.length : Int)) ((crc s t ^^^ 4294967295 : Nat) : Int)
  | [], pre, s, hs, _, _ => Ev.step (f := fun _ => some ((s ^^^ 4294967295 : Nat) : Int)) (fun k => by
      simp only [bits_Sum.l0]
      rw [if_neg (by simp)]
      have this : Go.bits .xor .u32 4294967295 (s : Int) = ((4294967295 ^^^ s : Nat) : Int) := u32_xor_nat 4294967295 s (by decide) hs
      rw [this, Nat.xor_comm]) (Ev.now _)
  | c :: t, pre, s, hs, hb, hl => by
    have hc := hb c (by simp)
    have ih := sum_l0 t (pre ++ [c]) (crcBits 8 (s ^^^ c.toNat)) (crcBits_lt 8 (xor_lt32 hs (by omega))) (fun y hy => hb y (List.mem_cons_of_mem _ hy)) (by simpa using hl)
    have e1 : pre ++ [c] ++ t = pre ++ c :: t := by simp
    have e2 : ((pre ++ [c]).length : Int) = wrap64 ((pre.length : Int) + 1) := by
      simp only [List.length_append, List.length_cons, List.length_nil] at hl ⊢
      rw [w64 (by omega) (by omega)]; omega
    rw [e1, e2] at ih
    have ih2 := sum_l1 8 (by decide) (s ^^^ c.toNat) (xor_lt32 hs (by omega)) ih
    refine Ev.step (fun k => ?_) ih2
    simp only [bits_Sum.l0]
    rw [if_pos (by simp; omega), if_pos (by omega), if_pos (by simp; omega)]
    have er : rd (pre ++ c :: t) (pre.length : Int) = c := by simp [rd]
    rw [er]
    have := u32_xor_nat s c.toNat hs (by omega)
    have ec : ((c.toNat : Nat) : Int) = c % 4294967296 := by omega
    rw [ec] at this
    rw [this]
    rfl
theorem sum_ev {l : List Int} (hl : l.length ≤ 9223372036854775807) (hb : ∀ y ∈ l, 0 ≤ y ∧ y ≤ 255) : Ev (fun k => bits_Sum.f k l) (sumS l) :=
  sum_l0 l [] 4294967295 (by decide) hb (by simpa using hl)
end Go.Proofs.Ytaebgjdaoloceaa.Pure
