/- What is proved: a change of any bits among 32 neighbouring ones, counted from the lowest bit of each byte on, changes the sum. This text: the statement about numbers and lists alone. No condition. -/
import Derived.Test.YtlhdfdedhdcmiaaPCrc
import Derived.Test.YtlhdfdedhdcmiaaPCopy
import Derived.Test.YtlhdfdedhdcmiaaVAwake01
import Derived.Test.YtlhdfdedhdcmiaaQBitsx15
set_option linter.unusedSimpArgs false
namespace Go.Proofs.Ytlhdfdedhdcmiaa.Pure
open Go.RowKit Go.Proofs.Ytlhdfdedhdcmiaa.QBits Go.Proofs.YtlhdfdedhdcmiaaW.PrintWords Go.Proofs.YtlhdfdedhdcmiaaW.PrintMore Go.Proofs.YtlhdfdedhdcmiaaV
theorem xor_lt8 {a b : Nat} (ha : a < 256) (hb : b < 256) : a ^^^ b < 256 := Nat.xor_lt_two_pow (n := 8) ha hb
theorem shl_u8 (r : Nat) (h : r < 8) : shl .u8 1 (r : Int) = ((2 ^ r : Nat) : Int) ∧ 2 ^ r < 256 := by
  have : r = 0 ∨ r = 1 ∨ r = 2 ∨ r = 3 ∨ r = 4 ∨ r = 5 ∨ r = 6 ∨ r = 7 := by omega
  rcases this with rfl | rfl | rfl | rfl | rfl | rfl | rfl | rfl <;> decide +kernel
theorem rd_mem {l : List Int} {i : Nat} (h : i < l.length) : rd l (i : Int) ∈ l := by
  unfold rd
  rw [Int.toNat_natCast, List.getD_eq_getElem?_getD, List.getElem?_eq_getElem h]
  exact List.getElem_mem _
theorem bursts_end {l c : List Int} {g : Int} {an b i : Nat} (hl : l.length ≤ 4000) (hb : ∀ y ∈ l, 0 ≤ y ∧ y ≤ 255) (hcl : c.length = l.length) (hcb : ∀ y ∈ c, 0 ≤ y ∧ y ≤ 255) (hle : le c = le l ^^^ (2 ^ an * b)) (han : an < 8 * l.length) (hb32 : b < 4294967296) :
    Ev (fun k => dioramalaw01_BitsBursts.j2 k l g c (an : Int) (decide (b ≠ 0)) (i : Int) false) true := by
  refine Ev.step (f := fun k => (bits_Sum.f k l).bind _) (fun k => by simp only [dioramalaw01_BitsBursts.j2]; rw [if_neg (by simp)]) (Ev.bind (sum_ev (by omega) hb) (Ev.bind (sum_ev (by omega) hcb) ?_))
  have key : (decide (b ≠ 0) == (sumS l != sumS c)) = true := by
    have h1 := sumS_eq (l := l) (l' := c) hcl.symm
    rw [hle, ← Nat.xor_assoc, Nat.xor_self, Nat.zero_xor] at h1
    by_cases h : b = 0
    · subst h
      rw [Nat.mul_zero, crcBits_zero] at h1
      simp [h1.mpr rfl]
    · have h2 := burst_ne (n := 8 * l.length) (at_ := an) (b := b) (by omega) h hb32
      have h3 : sumS l ≠ sumS c := fun e => h2 (h1.mp e)
      simp [h, h3]
  simp only [key, if_true]
  exact Ev.bind awake_ev (Ev.now _)
theorem burst_ar {an i n : Nat} (h : an < 8 * n) (hn : n ≤ 4000) (hi : i < 32) : wrap64 ((an : Int) + (i : Int)) = ((an + i : Nat) : Int) ∧ wrap64 (8 * (n : Int)) = ((8 * n : Nat) : Int) ∧ IntKind.u64.wrap (i : Int) = (i : Int) ∧ wrap64 ((i : Int) + 1) = ((i + 1 : Nat) : Int) := by
  rw [w64 (by omega) (by omega), w64 (by omega) (by omega), w64 (by omega) (by omega), IntKind.wrap_u64]
  omega
theorem burst_ar2 {m : Nat} (h : m < 32000) : wrap64 (Int.tdiv (m : Int) 8) = ((m / 8 : Nat) : Int) ∧ IntKind.u64.wrap (Int.tmod (m : Int) 8) = ((m % 8 : Nat) : Int) := by
  rw [Int.tdiv_eq_ediv_of_nonneg (by omega), Int.tmod_eq_emod_of_nonneg (by omega), w64 (by omega) (by omega), IntKind.wrap_u64]
  omega
theorem turn8 {x : Int} {r : Nat} (h0 : 0 ≤ x) (h1 : x ≤ 255) (hr : r < 8) : Go.bits .xor .u8 x (shl .u8 1 (r : Int)) = ((x.toNat ^^^ 2 ^ r : Nat) : Int) ∧ x.toNat ^^^ 2 ^ r < 256 := by
  obtain ⟨s1, s2⟩ := shl_u8 r hr
  have h2 : x.toNat < 256 := by omega
  refine ⟨?_, xor_lt8 h2 s2⟩
  rw [s1, ← u8_xor_nat x.toNat (2 ^ r) h2 s2, Int.toNat_of_nonneg h0]
theorem grow_bit {b i : Nat} (h : b < 2 ^ i) : b ^^^ 2 ^ i ≠ 0 ∧ b ^^^ 2 ^ i < 2 ^ (i + 1) := by
  have h1 : 2 ^ (i + 1) = 2 * 2 ^ i := by rw [Nat.pow_succ, Nat.mul_comm]
  have h3 := Nat.two_pow_pos i
  refine ⟨fun e => ?_, Nat.xor_lt_two_pow (by omega) (by omega)⟩
  have h2 : b = 2 ^ i := by
    have := congrArg (· ^^^ 2 ^ i) e
    simpa only [Nat.xor_assoc, Nat.xor_self, Nat.xor_zero, Nat.zero_xor] using this
  omega
theorem mem_turn {c : List Int} {q x : Nat} (hcb : ∀ y ∈ c, 0 ≤ y ∧ y ≤ 255) (hx : x < 256) : ∀ y ∈ c.set q (x : Int), 0 ≤ y ∧ y ≤ 255 := fun y hy => by
  rcases List.mem_or_eq_of_mem_set hy with h | h
  · exact hcb y h
  · rw [h]; omega
theorem le_turn {l c : List Int} {an b i : Nat} (hq : (an + i) / 8 < c.length) (hcb : ∀ y ∈ c, 0 ≤ y ∧ y ≤ 255) (hle : le c = le l ^^^ (2 ^ an * b)) :
    le (c.set ((an + i) / 8) (((rd c (((an + i) / 8 : Nat) : Int)).toNat ^^^ 2 ^ ((an + i) % 8) : Nat) : Int)) = le l ^^^ (2 ^ an * (b ^^^ 2 ^ i)) := by
  have e : 8 * ((an + i) / 8) + (an + i) % 8 = an + i := Nat.div_add_mod _ _
  rw [le_set c _ _ hq (fun y hy => (hcb y hy).1), hle, mul_xor, Nat.xor_assoc, ← Nat.pow_add, ← Nat.pow_add, e]
theorem pow_le32 {i : Nat} (h : i ≤ 32) : 2 ^ i ≤ 4294967296 := Nat.le_trans (Nat.pow_le_pow_right (by decide) h) (by decide)
theorem bursts_l0 {l : List Int} {g : Int} {an : Nat} (hl : l.length ≤ 4000) (hb : ∀ y ∈ l, 0 ≤ y ∧ y ≤ 255) (han : an < 8 * l.length) : ∀ (d i b : Nat) (c : List Int), i + d = 32 → c.length = l.length → (∀ y ∈ c, 0 ≤ y ∧ y ≤ 255) → le c = le l ^^^ (2 ^ an * b) → b < 2 ^ i →
    Ev (fun k => dioramalaw01_BitsBursts.l0 k l g c (an : Int) (decide (b ≠ 0)) (i : Int)) true
  | 0, i, b, c, hi, hcl, hcb, hle, hbi => by
    have h32 : ¬ (i : Int) < 32 := by clear hle hbi; omega
    have hi2 : i ≤ 32 := by clear hle hbi; omega
    refine Ev.step (f := fun k => dioramalaw01_BitsBursts.j2 k l g c (an : Int) (decide (b ≠ 0)) (i : Int) false) (fun k => ?_) (bursts_end hl hb hcl hcb hle han (Nat.lt_of_lt_of_le hbi (pow_le32 hi2)))
    simp only [dioramalaw01_BitsBursts.l0]
    rw [if_neg h32]
  | d + 1, i, b, c, hi, hcl, hcb, hle, hbi => by
    have f1 : (i : Int) < 32 := by clear hle hbi; omega
    obtain ⟨e0, e8, ei, en⟩ := burst_ar (i := i) han hl (by clear hle hbi; omega)
    by_cases hin : an + i < 8 * l.length
    · refine Ev.step (f := fun k => dioramalaw01_BitsBursts.j2 k l g c (an : Int) (decide (b ≠ 0)) (i : Int) true) (fun k => ?_) ?_
      · simp only [dioramalaw01_BitsBursts.l0]
        rw [if_pos f1, e0, e8, decide_eq_true (show ((an + i : Nat) : Int) < ((8 * l.length : Nat) : Int) by clear hle hbi; omega)]
      · by_cases hbit : (Go.bits .and .u32 (shr .u32 g (i : Int)) 1) = 1
        · have hq : (an + i) / 8 < c.length := by clear hle hbi; omega
          obtain ⟨e3, e4⟩ := burst_ar2 (m := an + i) (by clear hle hbi; omega)
          have hm := hcb _ (rd_mem hq)
          obtain ⟨ex, hx⟩ := turn8 (r := (an + i) % 8) hm.1 hm.2 (Nat.mod_lt _ (by decide))
          obtain ⟨hb', hbi'⟩ := grow_bit hbi
          have ih := bursts_l0 (g := g) hl hb han d (i + 1) (b ^^^ 2 ^ i) _ (by clear hle hbi hbi'; omega) (by rw [List.length_set]; exact hcl) (mem_turn hcb hx) (le_turn hq hcb hle) hbi'
          rw [decide_eq_true hb'] at ih
          clear hle hbi hbi'
          refine Ev.step (fun k => ?_) ih
          simp only [dioramalaw01_BitsBursts.j2]
          rw [if_pos trivial, ei, if_pos (Int.natCast_nonneg i), if_pos hbit, e0, e3, e4, if_pos (Int.natCast_nonneg _), if_pos (Int.ofNat_lt.mpr hq), if_pos (Int.natCast_nonneg _), ex, en, Int.toNat_natCast]
        · have ih := bursts_l0 (g := g) hl hb han d (i + 1) b c (by clear hle hbi; omega) hcl hcb hle (Nat.lt_of_lt_of_le hbi (Nat.pow_le_pow_right (by decide) (Nat.le_succ i)))
          refine Ev.step (fun k => ?_) ih
          clear hle hbi
          simp only [dioramalaw01_BitsBursts.j2]
          rw [if_pos trivial, ei, if_pos (Int.natCast_nonneg i), if_neg hbit, en]
    · refine Ev.step (f := fun k => dioramalaw01_BitsBursts.j2 k l g c (an : Int) (decide (b ≠ 0)) (i : Int) false) (fun k => ?_) (bursts_end hl hb hcl hcb hle han (Nat.lt_of_lt_of_le hbi (pow_le32 (by clear hle hbi; omega))))
      simp only [dioramalaw01_BitsBursts.l0]
      rw [if_pos f1, e0, e8, decide_eq_false (show ¬ ((an + i : Nat) : Int) < ((8 * l.length : Nat) : Int) by clear hle hbi; omega)]
theorem within_ev {a : Int} {n : Nat} (h : 0 < n) (hn : n ≤ 4294967296) : ∃ an : Nat, an < n ∧ dioramaref00_Within.f a (n : Int) = some (an : Int) := by
  unfold dioramaref00_Within.f
  have e : IntKind.u64.wrap (n : Int) = (n : Int) := by rw [IntKind.wrap_u64]; omega
  rw [e, if_neg (by omega)]
  have h0 : 0 ≤ IntKind.u64.wrap a := by rw [IntKind.wrap_u64]; omega
  have h1 := Int.emod_nonneg (IntKind.u64.wrap a) (show (n : Int) ≠ 0 by omega)
  have h2 := Int.emod_lt_of_pos (IntKind.u64.wrap a) (show (0 : Int) < (n : Int) by omega)
  rw [Int.tmod_eq_emod_of_nonneg h0, w64 (by omega) (by omega)]
  exact ⟨(IntKind.u64.wrap a % (n : Int)).toNat, by omega, by rw [Int.toNat_of_nonneg h1]⟩
theorem BitsBursts : ∀ (l0 : List (Int)) (a1 : Int) (a2 : Int), l0.length ≤ maxLen → (∀ y ∈ l0, (Lit.int .u8 y).wf = true) → ((Lit.int .i64 a1).wf = true) → ((Lit.int .u32 a2).wf = true) → ∃ k, dioramalaw01_BitsBursts.f k l0 a1 a2 = some true := by
  intro l a g _ hb _ _
  have hb' : ∀ y ∈ l, 0 ≤ y ∧ y ≤ 255 := fun y hy => u8b (hb y hy)
  have bad : Ev (fun k => dioramalaw01_BitsBursts.j0 k l a g true) true :=
    Ev.step (f := fun k => (dioramalaw01_awake.f k).bind fun t => some t) (fun k => by simp only [dioramalaw01_BitsBursts.j0]; rw [if_pos trivial]) (Ev.bind awake_ev (Ev.now _))
  apply Ev.rounds (g := fun k => dioramalaw01_BitsBursts.f k l a g)
  unfold dioramalaw01_BitsBursts.f
  by_cases h1 : (l.length : Int) = 0
  · simp only [if_pos h1]; exact bad
  · simp only [if_neg h1]
    by_cases h2 : (l.length : Int) > 4000
    · simp only [if_pos h2]; exact bad
    · simp only [if_neg h2]
      by_cases h3 : g = 0
      · have : (g == 0) = true := by simpa using h3
        simp only [this]; exact bad
      · have : (g == 0) = false := by simpa using h3
        simp only [this]
        have e8 : wrap64 (8 * (l.length : Int)) = ((8 * l.length : Nat) : Int) := by rw [w64 (by omega) (by omega)]; omega
        obtain ⟨an, han, hw⟩ := within_ev (a := a) (n := 8 * l.length) (by omega) (by omega)
        refine Ev.step (f := fun k => (dioramaref00_CopyBytes.f k l).bind fun c => dioramalaw01_BitsBursts.l0 k l g c (an : Int) false 0) (fun k => ?_) (Ev.bind (copyb_ev (by omega)) (bursts_l0 (g := g) (by omega) hb' han 32 0 0 l rfl rfl hb' (by simp) (by simp)))
        simp only [dioramalaw01_BitsBursts.j0]
        rw [if_neg (by simp), e8, hw]
        simp only [Option.bind_some]
end Go.Proofs.Ytlhdfdedhdcmiaa.Pure
