/- What is proved: the sum of two texts of one length, xored byte by byte, is the sum of the one xored with that of the other and with that of as many zeros. This text: the statement about numbers and lists alone. No condition. -/
import Derived.Test.YtlhdfdedhdcmiaaPCrc
import Derived.Test.YtlhdfdedhdcmiaaVAwake01
import Derived.Test.YtlhdfdedhdcmiaaQBitsx12
set_option linter.unusedSimpArgs false
namespace Go.Proofs.Ytlhdfdedhdcmiaa.Pure
open Go.RowKit Go.Proofs.Ytlhdfdedhdcmiaa.QBits Go.Proofs.YtlhdfdedhdcmiaaW.PrintWords Go.Proofs.YtlhdfdedhdcmiaaW.PrintMore Go.Proofs.YtlhdfdedhdcmiaaV
def xorL : List Int → List Int → List Int
  | c :: a, d :: b => ((c.toNat ^^^ d.toNat : Nat) : Int) :: xorL a b
  | _, _ => []
theorem xorL_len : ∀ (a b : List Int), a.length = b.length → (xorL a b).length = a.length
  | [], [], _ => rfl
  | _ :: a, _ :: b, h => by simp only [xorL, List.length_cons]; rw [xorL_len a b (by simpa using h)]
theorem lin_lt8 {a b : Nat} (ha : a < 256) (hb : b < 256) : a ^^^ b < 256 := Nat.xor_lt_two_pow (n := 8) ha hb
theorem xorL_bytes : ∀ (a b : List Int), (∀ y ∈ a, 0 ≤ y ∧ y ≤ 255) → (∀ y ∈ b, 0 ≤ y ∧ y ≤ 255) → ∀ y ∈ xorL a b, 0 ≤ y ∧ y ≤ 255
  | [], _, _, _ => by simp [xorL]
  | _ :: _, [], _, _ => by simp [xorL]
  | c :: a, d :: b, ha, hb => by
    intro y hy
    simp only [xorL, List.mem_cons] at hy
    rcases hy with rfl | hy
    · have h1 := ha c (by simp)
      have h2 := hb d (by simp)
      have h3 := lin_lt8 (a := c.toNat) (b := d.toNat) (by omega) (by omega)
      generalize c.toNat ^^^ d.toNat = z at h3 ⊢
      omega
    · exact xorL_bytes a b (fun y h => ha y (List.mem_cons_of_mem _ h)) (fun y h => hb y (List.mem_cons_of_mem _ h)) y hy
theorem xor_four (p q r s : Nat) : (p ^^^ q) ^^^ (r ^^^ s) = (p ^^^ r) ^^^ (q ^^^ s) := by
  apply Nat.eq_of_testBit_eq
  intro i
  simp only [Nat.testBit_xor]
  cases p.testBit i <;> cases q.testBit i <;> cases r.testBit i <;> cases s.testBit i <;> rfl
theorem le_xorL : ∀ (a b : List Int), a.length = b.length → le (xorL a b) = le a ^^^ le b
  | [], [], _ => rfl
  | c :: a, d :: b, h => by
    have e : 256 * (le a ^^^ le b) = 256 * le a ^^^ 256 * le b := mul_xor 8 _ _
    simp only [xorL, le]
    rw [le_xorL a b (by simpa using h), Int.toNat_natCast, e, xor_four]
theorem le_zeros : ∀ n, le (List.replicate n (0 : Int)) = 0
  | 0 => rfl
  | n + 1 => by
    rw [List.replicate_succ]
    simp only [le]
    rw [le_zeros n]
    rfl
theorem xor_law (c p q f : Nat) : (c ^^^ (p ^^^ q)) ^^^ f = (((c ^^^ p) ^^^ f) ^^^ ((c ^^^ q) ^^^ f)) ^^^ (c ^^^ f) := by
  apply Nat.eq_of_testBit_eq
  intro i
  simp only [Nat.testBit_xor]
  cases c.testBit i <;> cases p.testBit i <;> cases q.testBit i <;> cases f.testBit i <;> rfl
theorem sum_nat (l : List Int) : sumS l = (((crcBits (8 * l.length) 4294967295 ^^^ crcBits (8 * l.length) (le l)) ^^^ 4294967295 : Nat) : Int) := by
  unfold sumS
  rw [crc_le, crcBits_xor]
theorem sum_lt (l : List Int) (hb : ∀ y ∈ l, 0 ≤ y ∧ y ≤ 255) : (crcBits (8 * l.length) 4294967295 ^^^ crcBits (8 * l.length) (le l)) ^^^ 4294967295 < 4294967296 := by
  rw [← crcBits_xor, ← crc_le]
  exact xor_lt32 (crc_lt l (by decide) hb) (by decide)
theorem lin {a b : List Int} (h : a.length = b.length) (ha : ∀ y ∈ a, 0 ≤ y ∧ y ≤ 255) (hb : ∀ y ∈ b, 0 ≤ y ∧ y ≤ 255) :
    sumS (xorL a b) = Go.bits .xor .u32 (Go.bits .xor .u32 (sumS a) (sumS b)) (sumS (List.replicate a.length 0)) := by
  have hz : ∀ y ∈ List.replicate a.length (0 : Int), 0 ≤ y ∧ y ≤ 255 := fun y hy => by rw [List.eq_of_mem_replicate hy]; omega
  have la := sum_lt a ha
  have lb := sum_lt b hb
  have lz := sum_lt _ hz
  rw [sum_nat (xorL a b), sum_nat a, sum_nat b, sum_nat (List.replicate a.length 0)]
  rw [u32_xor_nat _ _ la lb, u32_xor_nat _ _ (xor_lt32 la lb) lz]
  rw [xorL_len a b h, le_xorL a b h, List.length_replicate, le_zeros, crcBits_zero, crcBits_xor, ← h, Nat.xor_zero, ← xor_law]
theorem lin_set {px : List Int} {m : Nat} {v : Int} : (px ++ List.replicate (m + 1) 0).set px.length v = (px ++ [v]) ++ List.replicate m 0 := by
  rw [List.replicate_succ]
  simp
theorem lin_rd {pre : List Int} {c : Int} {t : List Int} : rd (pre ++ c :: t) (pre.length : Int) = c := by simp [rd]
theorem lin_l0 {n : Nat} {r : Bool} (hn : n ≤ 4000) : ∀ (m : Nat) (pa ta pb tb px : List Int), pa.length + m = n → pb.length = pa.length → px.length = pa.length → m ≤ ta.length → m ≤ tb.length → (∀ y ∈ ta, 0 ≤ y ∧ y ≤ 255) → (∀ y ∈ tb, 0 ≤ y ∧ y ≤ 255) →
    Ev (fun k => dioramalaw01_BitsLinear.l0 k (pa ++ ta) (pb ++ tb) (n : Int) (px ++ xorL (ta.take m) (tb.take m)) (n : Int)) r →
    Ev (fun k => dioramalaw01_BitsLinear.l0 k (pa ++ ta) (pb ++ tb) (n : Int) (px ++ List.replicate m 0) (pa.length : Int)) r
  | 0, pa, ta, pb, tb, px, h1, h2, h3, _, _, _, _, H => by
    have e : pa.length = n := by omega
    rw [e]
    simpa [xorL] using H
  | m + 1, pa, [], _, _, _, _, _, _, h4, _, _, _, _ => by simp at h4
  | m + 1, pa, _ :: _, _, [], _, _, _, _, _, h5, _, _, _ => by simp at h5
  | m + 1, pa, c :: ta, pb, d :: tb, px, h1, h2, h3, h4, h5, ha, hb, H => by
    have hc := ha c (by simp)
    have hd := hb d (by simp)
    have e1 : pa ++ [c] ++ ta = pa ++ c :: ta := by simp
    have e2 : pb ++ [d] ++ tb = pb ++ d :: tb := by simp
    have ih := lin_l0 (r := r) hn m (pa ++ [c]) ta (pb ++ [d]) tb (px ++ [((c.toNat ^^^ d.toNat : Nat) : Int)]) (by simp; omega) (by simp [h2]) (by simp [h3]) (by simpa using h4) (by simpa using h5) (fun y hy => ha y (List.mem_cons_of_mem _ hy)) (fun y hy => hb y (List.mem_cons_of_mem _ hy))
      (by rw [e1, e2]; simpa [xorL] using H)
    rw [e1, e2] at ih
    have e3 : ((pa ++ [c]).length : Int) = wrap64 ((pa.length : Int) + 1) := by
      rw [w64 (by omega) (by omega)]
      simp
    rw [e3] at ih
    refine Ev.step (fun k => ?_) ih
    simp only [dioramalaw01_BitsLinear.l0]
    rw [if_pos (by omega), if_pos (by omega), if_pos (by simp; omega), if_pos (by simp; omega), if_pos (by simp; omega), lin_rd]
    have e4 : rd (pb ++ d :: tb) (pa.length : Int) = d := by rw [← h2]; exact lin_rd
    rw [e4]
    have e5 := u8_xor_nat c.toNat d.toNat (by omega) (by omega)
    rw [Int.toNat_of_nonneg hc.1, Int.toNat_of_nonneg hd.1] at e5
    rw [e5, Int.toNat_natCast, ← h3, lin_set]
theorem lin_end {x y : List Int} {n : Nat} (hn : n ≤ 4000) (hx : n ≤ x.length) (hy : n ≤ y.length) (bx : ∀ z ∈ x, 0 ≤ z ∧ z ≤ 255) (by_ : ∀ z ∈ y, 0 ≤ z ∧ z ≤ 255) :
    Ev (fun k => dioramalaw01_BitsLinear.l0 k x y (n : Int) (xorL (x.take n) (y.take n)) (n : Int)) true := by
  have lx : (x.take n).length = n := by rw [List.length_take]; omega
  have ly : (y.take n).length = n := by rw [List.length_take]; omega
  have b1 : ∀ z ∈ x.take n, 0 ≤ z ∧ z ≤ 255 := fun z hz => bx z (List.mem_of_mem_take hz)
  have b2 : ∀ z ∈ y.take n, 0 ≤ z ∧ z ≤ 255 := fun z hz => by_ z (List.mem_of_mem_take hz)
  have hz : ∀ z ∈ List.replicate n (0 : Int), 0 ≤ z ∧ z ≤ 255 := fun z hz => by rw [List.eq_of_mem_replicate hz]; omega
  have L := lin (a := x.take n) (b := y.take n) (by omega) b1 b2
  rw [lx] at L
  have bX := xorL_bytes _ _ b1 b2
  have lX := xorL_len (x.take n) (y.take n) (by omega)
  refine Ev.step (fun k => by simp only [dioramalaw01_BitsLinear.l0]; rw [if_neg (by omega)]) (Ev.bind (sum_ev (by omega) bX) ?_)
  simp only [if_pos (Int.natCast_nonneg n), if_pos (Int.ofNat_le.mpr hx), if_pos (Int.ofNat_le.mpr hy), Int.toNat_natCast, if_pos (show n ≤ 281474976710656 by omega)]
  refine Ev.bind (sum_ev (by omega) b1) (Ev.bind (sum_ev (by omega) b2) (Ev.bind (sum_ev (by simp; omega) hz) ?_))
  simp only [if_pos L]
  refine Ev.bind (sum_ev (by decide) (by decide)) (Ev.bind (sum_ev (by decide) (by decide)) ?_)
  simp only [if_neg (show ¬ sumS [1] = sumS [2] by decide +kernel)]
  exact Ev.bind awake_ev (Ev.now _)
theorem lin_j0 {x y : List Int} {n : Nat} (hx : n ≤ x.length) (hy : n ≤ y.length) (bx : ∀ z ∈ x, 0 ≤ z ∧ z ≤ 255) (by_ : ∀ z ∈ y, 0 ≤ z ∧ z ≤ 255) :
    Ev (fun k => dioramalaw01_BitsLinear.j0 k x y (n : Int)) true := by
  by_cases hn : (n : Int) > 4000
  · exact Ev.step (f := fun _ => some true) (fun k => by simp only [dioramalaw01_BitsLinear.j0]; rw [if_pos hn]) (Ev.now _)
  · have hn' : n ≤ 4000 := by omega
    have h := lin_l0 (r := true) hn' n [] x [] y [] (by simp) rfl rfl hx hy bx by_ (by simpa using lin_end hn' hx hy bx by_)
    refine Ev.step (fun k => ?_) h
    simp only [dioramalaw01_BitsLinear.j0]
    rw [if_neg hn, if_pos (Int.natCast_nonneg n), Int.toNat_natCast, if_pos (show n ≤ 281474976710656 by omega)]
    rfl
theorem BitsLinear : ∀ (l0 : List (Int)) (l1 : List (Int)), l0.length ≤ maxLen → (∀ y ∈ l0, (Lit.int .u8 y).wf = true) → l1.length ≤ maxLen → (∀ y ∈ l1, (Lit.int .u8 y).wf = true) → ∃ k, dioramalaw01_BitsLinear.f k l0 l1 = some true := by
  intro x y _ hx _ hy
  have bx : ∀ z ∈ x, 0 ≤ z ∧ z ≤ 255 := fun z hz => u8b (hx z hz)
  have by_ : ∀ z ∈ y, 0 ≤ z ∧ z ≤ 255 := fun z hz => u8b (hy z hz)
  apply Ev.rounds (g := fun k => dioramalaw01_BitsLinear.f k x y)
  unfold dioramalaw01_BitsLinear.f
  by_cases h : (y.length : Int) < (x.length : Int)
  · simp only [if_pos h]; exact lin_j0 (by omega) (Nat.le_refl _) bx by_
  · simp only [if_neg h]; exact lin_j0 (Nat.le_refl _) (by omega) bx by_
end Go.Proofs.Ytlhdfdedhdcmiaa.Pure
