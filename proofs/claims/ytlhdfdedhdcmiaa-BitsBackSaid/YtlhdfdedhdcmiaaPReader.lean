/- A lemma file: the methods of a reader, of the program and of the reference, answer alike. No condition. -/
import Derived.Test.YtlhdfdedhdcmiaaVPlain
import Derived.Test.YtlhdfdedhdcmiaaQBitsx35
import Derived.Test.YtlhdfdedhdcmiaaQBitsx40
import Derived.Test.YtlhdfdedhdcmiaaQBitsx42
import Derived.Test.YtlhdfdedhdcmiaaQBitsx44
import Derived.Test.YtlhdfdedhdcmiaaQBitsx45
import Derived.Test.YtlhdfdedhdcmiaaQBitsx38
import Derived.Test.YtlhdfdedhdcmiaaQBitsx41
import Derived.Test.YtlhdfdedhdcmiaaQBitsx43
import Derived.Test.YtlhdfdedhdcmiaaQBitsx45
import Derived.Test.YtlhdfdedhdcmiaaQBitsx45
set_option linter.unusedSimpArgs false
namespace Go.Proofs.Ytlhdfdedhdcmiaa.Pure
open Go.RowKit Go.Proofs.Ytlhdfdedhdcmiaa.QBits Go.Proofs.YtlhdfdedhdcmiaaW.PrintWords Go.Proofs.YtlhdfdedhdcmiaaW.PrintMore Go.Proofs.YtlhdfdedhdcmiaaV
def bitS (b : List Int) (p : Nat) : Nat := ((rd b ((p / 8 : Nat) : Int)).toNat / 2 ^ (7 - p % 8)) % 2
theorem bitS_le (b : List Int) (p : Nat) : bitS b p ≤ 1 := by unfold bitS; omega
theorem shr_i64 {x : Int} {n : Nat} (h : n ≤ 64) : shr .i64 x (n : Int) = x / 2 ^ n := by
  unfold shr
  rw [Int.toNat_natCast, Nat.min_eq_left (show n ≤ IntKind.i64.bits from h)]
theorem shl_i64 {x : Int} {n : Nat} (h : n ≤ 64) : shl .i64 x (n : Int) = wrap64 (x * 2 ^ n) := by
  unfold shl
  rw [Int.toNat_natCast, Nat.min_eq_left (show n ≤ IntKind.i64.bits from h), IntKind.wrap_i64]
  unfold wrap64
  rfl
theorem bit_ar {p : Nat} (h : p < 8800000) : wrap64 (Int.tdiv (p : Int) 8) = ((p / 8 : Nat) : Int) ∧ wrap64 (7 - Int.tmod (p : Int) 8) = ((7 - p % 8 : Nat) : Int) ∧ IntKind.u64.wrap ((7 - p % 8 : Nat) : Int) = ((7 - p % 8 : Nat) : Int) := by
  rw [Int.tdiv_eq_ediv_of_nonneg (by omega), Int.tmod_eq_emod_of_nonneg (by omega), w64 (by omega) (by omega), w64 (by omega) (by omega), IntKind.wrap_u64]
  omega
theorem rd_mem' {l : List Int} {i : Nat} (h : i < l.length) : rd l (i : Int) ∈ l := by
  unfold rd
  rw [Int.toNat_natCast, List.getD_eq_getElem?_getD, List.getElem?_eq_getElem h]
  exact List.getElem_mem _
theorem bit_val {b : List Int} {p : Nat} (hb : ∀ y ∈ b, 0 ≤ y ∧ y ≤ 255) (hp : p < 8 * b.length) : Go.bits .and .i64 (wrap64 (rd b ((p / 8 : Nat) : Int)) / 2 ^ (7 - p % 8)) 1 = ((bitS b p : Nat) : Int) := by
  have hm := hb _ (rd_mem' (l := b) (i := p / 8) (by omega))
  have e : rd b ((p / 8 : Nat) : Int) = (((rd b ((p / 8 : Nat) : Int)).toNat : Nat) : Int) := by omega
  have e2 : wrap64 (rd b ((p / 8 : Nat) : Int)) / 2 ^ (7 - p % 8) = (((rd b ((p / 8 : Nat) : Int)).toNat / 2 ^ (7 - p % 8) : Nat) : Int) := by
    rw [w64 (by omega) (by omega)]
    conv => lhs; rw [e]
    norm_cast
  have hle : (rd b ((p / 8 : Nat) : Int)).toNat / 2 ^ (7 - p % 8) ≤ (rd b ((p / 8 : Nat) : Int)).toNat := Nat.div_le_self _ _
  rw [e2]
  unfold bitS
  generalize (rd b ((p / 8 : Nat) : Int)).toNat / 2 ^ (7 - p % 8) = z at hle ⊢
  rw [i64_and_one (by omega) (by omega)]
  omega
theorem bit_p {b : List Int} {p : Nat} (s : Int) (hl : b.length ≤ 1100000) (hb : ∀ y ∈ b, 0 ≤ y ∧ y ≤ 255) (hp : p < 8 * b.length) : bits_Reader_bit.f b s (p : Int) = some (((bitS b p : Nat) : Int), s) := by
  obtain ⟨e1, e2, _⟩ := bit_ar (p := p) (by omega)
  unfold bits_Reader_bit.f
  rw [e1, if_pos (Int.natCast_nonneg _), if_pos (Int.ofNat_lt.mpr (by omega)), e2, if_pos (Int.natCast_nonneg _), shr_i64 (by omega), bit_val hb hp]
theorem bit_r {b : List Int} {p : Nat} (s : Int) (hl : b.length ≤ 1100000) (hb : ∀ y ∈ b, 0 ≤ y ∧ y ≤ 255) (hp : p < 8 * b.length) : dioramaref01_Reader_bit.f b s (p : Int) = some (((bitS b p : Nat) : Int), s) := by
  obtain ⟨e1, e2, e3⟩ := bit_ar (p := p) (by omega)
  unfold dioramaref01_Reader_bit.f
  rw [e1, if_pos (Int.natCast_nonneg _), if_pos (Int.ofNat_lt.mpr (by omega)), e2, e3, if_pos (Int.natCast_nonneg _), shr_i64 (by omega), bit_val hb hp]
def numB (b : List Int) (p : Nat) : Nat → Nat
  | 0 => 0
  | n + 1 => 2 * numB b p n + bitS b (p + n)
theorem numB_lt (b : List Int) (p : Nat) : ∀ n, numB b p n < 2 ^ n
  | 0 => by simp [numB]
  | n + 1 => by
    have h1 := numB_lt b p n
    have h2 := bitS_le b (p + n)
    have h3 : 2 ^ (n + 1) = 2 * 2 ^ n := by rw [Nat.pow_succ, Nat.mul_comm]
    simp only [numB]
    omega
theorem numB_32 {b : List Int} {p n : Nat} (h : n ≤ 32) : numB b p n < 4294967296 := Nat.lt_of_lt_of_le (numB_lt b p n) (Nat.pow_le_pow_right (by decide) h)
theorem or2 {v c : Nat} (hv : v < 4294967296) (hc : c ≤ 1) : Go.bits .or .i64 (wrap64 ((v : Int) * 2)) (c : Int) = ((2 * v + c : Nat) : Int) := by
  rw [w64 (by omega) (by omega), bits_join .i64 63 (by decide) (fun n h h' => by rw [IntKind.wrap_i64]; omega) 1 ((v : Int) * 2) c (by omega) (by omega) (by omega) (by omega) (by omega) (by omega)]
  omega
theorem raw_l0 {b : List Int} {p n : Nat} (s : Int) (hl : b.length ≤ 1100000) (hb : ∀ y ∈ b, 0 ≤ y ∧ y ≤ 255) (hn : n ≤ 32) (hp : p + n ≤ 8 * b.length) : ∀ d i, i + d = n → Ev (fun k => bits_Reader_raw.l0 k (p : Int) ((numB b p i : Nat) : Int) (n : Int) (i : Int) b s) (((numB b p n : Nat) : Int), s)
  | 0, i, h => by
    obtain rfl : i = n := by omega
    exact Ev.step (f := fun _ => some (((numB b p i : Nat) : Int), s)) (fun k => by simp only [bits_Reader_raw.l0]; rw [if_neg (by omega)]) (Ev.now _)
  | d + 1, i, h => by
    have ih := raw_l0 (n := n) s hl hb hn hp d (i + 1) (by omega)
    have hv := numB_32 (b := b) (p := p) (n := i) (by omega)
    have hc := bitS_le b (p + i)
    refine Ev.step (fun k => ?_) ih
    simp only [bits_Reader_raw.l0]
    have e1 : wrap64 ((p : Int) + (i : Int)) = ((p + i : Nat) : Int) := by rw [w64 (by omega) (by omega)]; omega
    have e2 : wrap64 ((i : Int) + 1) = ((i + 1 : Nat) : Int) := by rw [w64 (by omega) (by omega)]; omega
    rw [if_pos (by omega), e1, bit_p s hl hb (by omega)]
    simp only [Option.bind_some]
    rw [or2 hv hc, e2]
    rfl
theorem number_l0 {b : List Int} {p n : Nat} (s : Int) (hl : b.length ≤ 1100000) (hb : ∀ y ∈ b, 0 ≤ y ∧ y ≤ 255) (hn : n ≤ 32) (hp : p + n ≤ 8 * b.length) : ∀ d i, i + d = n → Ev (fun k => dioramaref01_Reader_number.l0 k (p : Int) (n : Int) ((numB b p i : Nat) : Int) (i : Int) b s) (((numB b p n : Nat) : Int), s)
  | 0, i, h => by
    obtain rfl : i = n := by omega
    exact Ev.step (f := fun _ => some (((numB b p i : Nat) : Int), s)) (fun k => by simp only [dioramaref01_Reader_number.l0]; rw [if_neg (by omega)]) (Ev.now _)
  | d + 1, i, h => by
    have ih := number_l0 (n := n) s hl hb hn hp d (i + 1) (by omega)
    have hv := numB_32 (b := b) (p := p) (n := i) (by omega)
    have hc := bitS_le b (p + i)
    refine Ev.step (fun k => ?_) ih
    simp only [dioramaref01_Reader_number.l0]
    have e1 : wrap64 ((p : Int) + (i : Int)) = ((p + i : Nat) : Int) := by rw [w64 (by omega) (by omega)]; omega
    have e2 : wrap64 ((i : Int) + 1) = ((i + 1 : Nat) : Int) := by rw [w64 (by omega) (by omega)]; omega
    have e3 : wrap64 (wrap64 (2 * ((numB b p i : Nat) : Int)) + ((bitS b (p + i) : Nat) : Int)) = ((2 * numB b p i + bitS b (p + i) : Nat) : Int) := by
      rw [w64 (x := 2 * _) (by omega) (by omega), w64 (by omega) (by omega)]; omega
    rw [if_pos (by omega), e1, bit_r s hl hb (by omega)]
    simp only [Option.bind_some]
    rw [e3, e2]
    rfl
theorem raw_ev {b : List Int} {p n : Nat} (s : Int) (hl : b.length ≤ 1100000) (hb : ∀ y ∈ b, 0 ≤ y ∧ y ≤ 255) (hn : n ≤ 32) (hp : p + n ≤ 8 * b.length) : Ev (fun k => bits_Reader_raw.f k b s (p : Int) (n : Int)) (((numB b p n : Nat) : Int), s) := raw_l0 s hl hb hn hp n 0 (by omega)
theorem number_ev {b : List Int} {p n : Nat} (s : Int) (hl : b.length ≤ 1100000) (hb : ∀ y ∈ b, 0 ≤ y ∧ y ≤ 255) (hn : n ≤ 32) (hp : p + n ≤ 8 * b.length) : Ev (fun k => dioramaref01_Reader_number.f k b s (p : Int) (n : Int)) (((numB b p n : Nat) : Int), s) := number_l0 s hl hb hn hp n 0 (by omega)
def ZOut (b : List Int) (a : Nat) (most : Int) (P : Nat → Option (Int × Int × Int × Int)) (R : Nat → Option (Int × Int × Int)) : Prop :=
  (∃ n : Nat, a + n < 8 * b.length ∧ (n : Int) ≤ most ∧ Ev P ((n : Int), ((a + n + 1 : Nat) : Int), 0, (a : Int)) ∧ Ev R ((n : Int), 0, (a : Int))) ∨ (∃ e : Int, e ≠ 0 ∧ Ev P (0, 0, e, (a : Int)) ∧ Ev R (0, e, (a : Int)))
theorem ZOut.step {b : List Int} {a : Nat} {most : Int} {P P' : Nat → Option (Int × Int × Int × Int)} {R R' : Nat → Option (Int × Int × Int)} (h : ∀ k, P (k + 1) = P' k) (h' : ∀ k, R (k + 1) = R' k) (z : ZOut b a most P' R') : ZOut b a most P R := by
  rcases z with ⟨n, h1, h2, h3, h4⟩ | ⟨e, h1, h2, h3⟩
  · exact .inl ⟨n, h1, h2, Ev.step h h3, Ev.step h' h4⟩
  · exact .inr ⟨e, h1, Ev.step h h2, Ev.step h' h3⟩
theorem zeros_l0 {b : List Int} {a : Nat} {most : Int} (hl : b.length ≤ 1100000) (hb : ∀ y ∈ b, 0 ≤ y ∧ y ≤ 255) (hm : most ≤ 9223372036854775807) : ∀ d n : Nat, a + n + d = 8 * b.length → (n : Int) ≤ most → ZOut b a most (fun k => bits_Reader_zeros.l0 k most ((a + n : Nat) : Int) (n : Int) b (a : Int)) (fun k => dioramaref01_Reader_zeros.l0 k most (n : Int) b (a : Int))
  | 0, n, h, hn => by
    have e8 : wrap64 (8 * (b.length : Int)) = ((8 * b.length : Nat) : Int) := by rw [w64 (by omega) (by omega)]; omega
    have e1 : wrap64 ((a : Int) + (n : Int)) = ((a + n : Nat) : Int) := by rw [w64 (by omega) (by omega)]; omega
    refine .inr ⟨3, by decide, ?_, ?_⟩
    · exact Ev.step (f := fun _ => some (0, 0, 3, (a : Int))) (fun k => by simp only [bits_Reader_zeros.l0]; rw [e8, if_neg (by omega)]) (Ev.now _)
    · exact Ev.step (f := fun _ => some (0, 3, (a : Int))) (fun k => by simp only [dioramaref01_Reader_zeros.l0]; rw [if_pos hn, e8, e1, if_pos (by omega)]) (Ev.now _)
  | d + 1, n, h, hn => by
    have e8 : wrap64 (8 * (b.length : Int)) = ((8 * b.length : Nat) : Int) := by rw [w64 (by omega) (by omega)]; omega
    have e1 : wrap64 ((a : Int) + (n : Int)) = ((a + n : Nat) : Int) := by rw [w64 (by omega) (by omega)]; omega
    have e2 : wrap64 (((a + n : Nat) : Int) + 1) = ((a + n + 1 : Nat) : Int) := by rw [w64 (by omega) (by omega)]; omega
    have e3 : wrap64 ((n : Int) + 1) = ((n + 1 : Nat) : Int) := by rw [w64 (by omega) (by omega)]; omega
    have bp := bit_p (p := a + n) (a : Int) hl hb (by omega)
    have br := bit_r (p := a + n) (a : Int) hl hb (by omega)
    by_cases h1 : ((bitS b (a + n) : Nat) : Int) = 1
    · refine .inl ⟨n, by omega, hn, ?_, ?_⟩
      · refine Ev.step (f := fun _ => some ((n : Int), ((a + n + 1 : Nat) : Int), 0, (a : Int))) (fun k => ?_) (Ev.now _)
        simp only [bits_Reader_zeros.l0]
        rw [e8, if_pos (by omega), bp]
        simp only [Option.bind_some]
        rw [if_pos h1, e2]
      · refine Ev.step (f := fun _ => some ((n : Int), 0, (a : Int))) (fun k => ?_) (Ev.now _)
        simp only [dioramaref01_Reader_zeros.l0]
        rw [if_pos hn, e8, e1, if_neg (by omega), br]
        simp only [Option.bind_some]
        rw [if_pos h1]
    · by_cases h2 : (n : Int) = most
      · refine .inr ⟨4, by decide, ?_, ?_⟩
        · refine Ev.step (f := fun _ => some (0, 0, 4, (a : Int))) (fun k => ?_) (Ev.now _)
          simp only [bits_Reader_zeros.l0]
          rw [e8, if_pos (by omega), bp]
          simp only [Option.bind_some]
          rw [if_neg h1, if_pos h2]
        · refine Ev.step (f := fun k => dioramaref01_Reader_zeros.l0 k most ((n + 1 : Nat) : Int) b (a : Int)) (fun k => ?_) (Ev.step (f := fun _ => some (0, 4, (a : Int))) (fun k => ?_) (Ev.now _))
          · simp only [dioramaref01_Reader_zeros.l0]
            rw [if_pos hn, e8, e1, if_neg (by omega), br]
            simp only [Option.bind_some]
            rw [if_neg h1, e3]
          · simp only [dioramaref01_Reader_zeros.l0]
            rw [if_neg (by omega)]
      · refine ZOut.step (fun k => ?_) (fun k => ?_) (zeros_l0 hl hb hm d (n + 1) (by omega) (by omega))
        · simp only [bits_Reader_zeros.l0]
          rw [e8, if_pos (by omega), bp]
          simp only [Option.bind_some]
          rw [if_neg h1, if_neg h2, e2, e3]
          rfl
        · simp only [dioramaref01_Reader_zeros.l0]
          rw [if_pos hn, e8, e1, if_neg (by omega), br]
          simp only [Option.bind_some]
          rw [if_neg h1, e3]
theorem zeros_out {b : List Int} {a : Nat} {most : Int} (hl : b.length ≤ 1100000) (hb : ∀ y ∈ b, 0 ≤ y ∧ y ≤ 255) (h0 : 0 ≤ most) (hm : most ≤ 9223372036854775807) (ha : a ≤ 8 * b.length) : ZOut b a most (fun k => bits_Reader_zeros.f k b (a : Int) most) (fun k => dioramaref01_Reader_zeros.f k b (a : Int) most) :=
  zeros_l0 hl hb hm (8 * b.length - a) 0 (by omega) h0
/-- Both answer the same, and stand at one place not behind the end. -/
def Alike (b : List Int) (P R : Nat → Option (Int × Int × Int)) : Prop := ∃ (v e : Int) (a : Nat), a ≤ 8 * b.length ∧ Ev P (v, e, (a : Int)) ∧ Ev R (v, e, (a : Int))
theorem left_ar {n a : Nat} (hl : n ≤ 1100000) (ha : a ≤ 8 * n) : wrap64 (wrap64 (8 * (n : Int)) - (a : Int)) = ((8 * n - a : Nat) : Int) := by rw [w64 (x := 8 * _) (by omega) (by omega), w64 (by omega) (by omega)]; omega
theorem left_p {b : List Int} {a : Nat} (hl : b.length ≤ 1100000) (ha : a ≤ 8 * b.length) : bits_Reader_Left.f b (a : Int) = some (((8 * b.length - a : Nat) : Int), (a : Int)) := by unfold bits_Reader_Left.f; rw [left_ar hl ha]
theorem left_r {b : List Int} {a : Nat} (hl : b.length ≤ 1100000) (ha : a ≤ 8 * b.length) : dioramaref01_Reader_Left.f b (a : Int) = some (((8 * b.length - a : Nat) : Int), (a : Int)) := by unfold dioramaref01_Reader_Left.f; rw [left_ar hl ha]
theorem place_ar {a m : Nat} (h : a + m ≤ 8800000) : wrap64 ((a : Int) + (m : Int)) = ((a + m : Nat) : Int) := by rw [w64 (by omega) (by omega)]; omega
theorem get_p {b : List Int} {a m : Nat} (hl : b.length ≤ 1100000) (hb : ∀ y ∈ b, 0 ≤ y ∧ y ≤ 255) (ha : a ≤ 8 * b.length) (hm : m ≤ 32) (h : a + m ≤ 8 * b.length) : Ev (fun k => bits_Reader_Get.j0 k (m : Int) false b (a : Int)) (((numB b a m : Nat) : Int), 0, ((a + m : Nat) : Int)) := by
  have q : Ev (fun k => (bits_Reader_raw.f k b (a : Int) (a : Int) (m : Int)).bind fun bt => some (bt.1, (0 : Int), wrap64 (bt.2 + (m : Int)))) (((numB b a m : Nat) : Int), 0, ((a + m : Nat) : Int)) := by
    refine Ev.bind (raw_ev (a : Int) hl hb hm h) ?_
    rw [← place_ar (a := a) (m := m) (by omega)]
    exact Ev.now _
  refine Ev.step (fun k => ?_) q
  simp only [bits_Reader_Get.j0]
  rw [if_neg (by decide), left_p hl ha]
  simp only [Option.bind_some]
  rw [if_neg (by omega)]
theorem get_r {b : List Int} {a m : Nat} (hl : b.length ≤ 1100000) (hb : ∀ y ∈ b, 0 ≤ y ∧ y ≤ 255) (ha : a ≤ 8 * b.length) (hm : m ≤ 32) (h : a + m ≤ 8 * b.length) : Ev (fun k => dioramaref01_Reader_Get.j0 k (m : Int) false b (a : Int)) (((numB b a m : Nat) : Int), 0, ((a + m : Nat) : Int)) := by
  have q : Ev (fun k => (dioramaref01_Reader_number.f k b (a : Int) (a : Int) (m : Int)).bind fun bt => some (bt.1, (0 : Int), wrap64 (bt.2 + (m : Int)))) (((numB b a m : Nat) : Int), 0, ((a + m : Nat) : Int)) := by
    refine Ev.bind (number_ev (a : Int) hl hb hm h) ?_
    rw [← place_ar (a := a) (m := m) (by omega)]
    exact Ev.now _
  refine Ev.step (fun k => ?_) q
  simp only [dioramaref01_Reader_Get.j0]
  rw [if_neg (by decide), left_r hl ha]
  simp only [Option.bind_some]
  rw [if_neg (by omega)]
theorem get_p3 {b : List Int} {a m : Nat} (hl : b.length ≤ 1100000) (ha : a ≤ 8 * b.length) (h : ¬ a + m ≤ 8 * b.length) : Ev (fun k => bits_Reader_Get.j0 k (m : Int) false b (a : Int)) (0, 3, (a : Int)) := by
  refine Ev.step (f := fun _ => some (0, 3, (a : Int))) (fun k => ?_) (Ev.now _)
  simp only [bits_Reader_Get.j0]
  rw [if_neg (by decide), left_p hl ha]
  simp only [Option.bind_some]
  rw [if_pos (by omega)]
theorem get_r3 {b : List Int} {a m : Nat} (hl : b.length ≤ 1100000) (ha : a ≤ 8 * b.length) (h : ¬ a + m ≤ 8 * b.length) : Ev (fun k => dioramaref01_Reader_Get.j0 k (m : Int) false b (a : Int)) (0, 3, (a : Int)) := by
  refine Ev.step (f := fun _ => some (0, 3, (a : Int))) (fun k => ?_) (Ev.now _)
  simp only [dioramaref01_Reader_Get.j0]
  rw [if_neg (by decide), left_r hl ha]
  simp only [Option.bind_some]
  rw [if_pos (by omega)]
theorem get_bad {b : List Int} {a : Nat} {n : Int} (ha : a ≤ 8 * b.length) : Alike b (fun k => bits_Reader_Get.j0 k n true b (a : Int)) (fun k => dioramaref01_Reader_Get.j0 k n true b (a : Int)) :=
  ⟨0, 1, a, ha, Ev.step (f := fun _ => some (0, 1, (a : Int))) (fun k => by simp only [bits_Reader_Get.j0]; rw [if_pos trivial]) (Ev.now _), Ev.step (f := fun _ => some (0, 1, (a : Int))) (fun k => by simp only [dioramaref01_Reader_Get.j0]; rw [if_pos trivial]) (Ev.now _)⟩
theorem get_alike {b : List Int} {a : Nat} {n : Int} (hl : b.length ≤ 1100000) (hb : ∀ y ∈ b, 0 ≤ y ∧ y ≤ 255) (ha : a ≤ 8 * b.length) : Alike b (fun k => bits_Reader_Get.f k b (a : Int) n) (fun k => dioramaref01_Reader_Get.f k b (a : Int) n) := by
  unfold bits_Reader_Get.f dioramaref01_Reader_Get.f
  by_cases h1 : n < 0
  · simp only [if_pos h1]; exact get_bad ha
  · simp only [if_neg h1]
    by_cases h2 : n > 32
    · rw [decide_eq_true h2]; exact get_bad ha
    · rw [decide_eq_false h2]
      obtain ⟨m, rfl⟩ := Int.eq_ofNat_of_zero_le (show 0 ≤ n by omega)
      by_cases h3 : a + m ≤ 8 * b.length
      · exact ⟨_, 0, a + m, h3, get_p hl hb ha (by omega) h3, get_r hl hb ha (by omega) h3⟩
      · exact ⟨0, 3, a, ha, get_p3 hl ha h3, get_r3 hl ha h3⟩
theorem unary_alike {b : List Int} {a : Nat} {n : Int} (hl : b.length ≤ 1100000) (hb : ∀ y ∈ b, 0 ≤ y ∧ y ≤ 255) (ha : a ≤ 8 * b.length) (hn : n ≤ 9223372036854775807) : Alike b (fun k => bits_Reader_Unary.f k b (a : Int) n) (fun k => dioramaref01_Reader_Unary.f k b (a : Int) n) := by
  unfold bits_Reader_Unary.f dioramaref01_Reader_Unary.f
  by_cases h1 : n < 0
  · simp only [if_pos h1]; exact ⟨0, 1, a, ha, Ev.now _, Ev.now _⟩
  · simp only [if_neg h1]
    rcases zeros_out (a := a) hl hb (show 0 ≤ n by omega) hn ha with ⟨m, h2, h3, h4, h5⟩ | ⟨e, h2, h3, h4⟩
    · have e1 : wrap64 (wrap64 ((a : Int) + (m : Int)) + 1) = ((a + m + 1 : Nat) : Int) := by rw [w64 (x := (a : Int) + m) (by omega) (by omega), w64 (by omega) (by omega)]; omega
      refine ⟨m, 0, a + m + 1, by omega, Ev.bind h4 ?_, Ev.bind h5 ?_⟩
      · simp only [if_true]; exact Ev.now _
      · simp only [if_true, e1]; exact Ev.now _
    · refine ⟨0, e, a, ha, Ev.bind h3 ?_, Ev.bind h4 ?_⟩
      · simp only [if_neg h2]; exact Ev.now _
      · simp only [if_neg h2]; exact Ev.now _
theorem join_i64 {n w k : Nat} (hn : n < 8800000) (hk : k ≤ 32) (hw : w < 2 ^ k) : Go.bits .or .i64 (shl .i64 (n : Int) (k : Int)) (w : Int) = ((n * 2 ^ k + w : Nat) : Int) ∧ wrap64 (shl .i64 (n : Int) (k : Int) + (w : Int)) = ((n * 2 ^ k + w : Nat) : Int) ∧ n * 2 ^ k + w < 40000000000000000 := by
  have h2 : 2 ^ k ≤ 4294967296 := Nat.pow_le_pow_right (n := 2) (by decide) hk
  have h3 : n * 2 ^ k ≤ 8800000 * 4294967296 := Nat.mul_le_mul (by omega) h2
  have e0 : (n : Int) * 2 ^ k = ((n * 2 ^ k : Nat) : Int) := by norm_cast
  have e1 : shl .i64 (n : Int) (k : Int) = ((n * 2 ^ k : Nat) : Int) := by
    rw [shl_i64 (by omega), e0]
    generalize n * 2 ^ k = z at h3 ⊢
    exact w64 (by omega) (by omega)
  have hmod : ((n * 2 ^ k : Nat) : Int) % 2 ^ k = 0 := by
    have : (n * 2 ^ k) % 2 ^ k = 0 := Nat.mul_mod_left _ _
    exact_mod_cast this
  have hwi : (w : Int) < 2 ^ k := by exact_mod_cast hw
  have hw' : w < 4294967296 := Nat.lt_of_lt_of_le hw h2
  rw [e1]
  generalize n * 2 ^ k = z at h3 hmod ⊢
  refine ⟨?_, ?_, by omega⟩
  · rw [bits_join .i64 63 (by decide) (fun n h h' => by rw [IntKind.wrap_i64]; omega) k (z : Int) (w : Int) (by omega) hmod (by omega) (by omega) hwi (by omega)]
    omega
  · rw [w64 (by omega) (by omega)]; omega
theorem bit_left {b : List Int} {a n : Nat} (hl : b.length ≤ 1100000) (h : a + n < 8 * b.length) : wrap64 (wrap64 (8 * (b.length : Int)) - ((a + n + 1 : Nat) : Int)) = ((8 * b.length - (a + n + 1) : Nat) : Int) := left_ar hl (by omega)
theorem rice_bad {b : List Int} {a : Nat} {k m : Int} (ha : a ≤ 8 * b.length) : Alike b (fun q => bits_Reader_Rice.j0 q k m true b (a : Int)) (fun q => dioramaref01_Reader_Rice.j0 q k m true b (a : Int)) :=
  ⟨0, 1, a, ha, Ev.step (f := fun _ => some (0, 1, (a : Int))) (fun k => by simp only [bits_Reader_Rice.j0]; rw [if_pos trivial]) (Ev.now _), Ev.step (f := fun _ => some (0, 1, (a : Int))) (fun k => by simp only [dioramaref01_Reader_Rice.j0]; rw [if_pos trivial]) (Ev.now _)⟩
def riceP (b : List Int) (a : Nat) (k : Nat) (m : Int) (q : Nat) : Option (Int × Int × Int) := (bits_Reader_zeros.f q b (a : Int) (m / 2 ^ k)).bind fun bt308 => (if bt308.2.2.1 = 0 then (if (wrap64 ((wrap64 (8 * (b.length : Int))) - bt308.2.1)) < (k : Int) then (some (0, 3, bt308.2.2.2)) else ((bits_Reader_raw.f q b bt308.2.2.2 bt308.2.1 (k : Int)).bind fun bt312 => (if (Go.bits .or .i64 (shl .i64 bt308.1 (k : Int)) bt312.1) > m then (some (0, 4, bt312.2)) else (some (Go.bits .or .i64 (shl .i64 bt308.1 (k : Int)) bt312.1, 0, wrap64 (bt308.2.1 + (k : Int))))))) else (some (0, bt308.2.2.1, bt308.2.2.2)))
def riceR (b : List Int) (a : Nat) (k : Nat) (m : Int) (q : Nat) : Option (Int × Int × Int) := (dioramaref01_Reader_zeros.f q b (a : Int) (m / 2 ^ k)).bind fun bt314 => (if bt314.2.1 = 0 then ((dioramaref01_Reader_Left.f b bt314.2.2).bind fun bt317 => (if (wrap64 ((wrap64 (bt314.1 + 1)) + (k : Int))) > bt317.1 then (some (0, 3, bt317.2)) else ((dioramaref01_Reader_number.f q b bt317.2 (wrap64 ((wrap64 (bt317.2 + bt314.1)) + 1)) (k : Int)).bind fun bt319 => (if (wrap64 ((shl .i64 bt314.1 (k : Int)) + bt319.1)) > m then (some (0, 4, bt319.2)) else (some (wrap64 ((shl .i64 bt314.1 (k : Int)) + bt319.1), 0, wrap64 ((wrap64 ((wrap64 (bt319.2 + bt314.1)) + 1)) + (k : Int)))))))) else (some (0, bt314.2.1, bt314.2.2)))
theorem rice_p {b : List Int} {a k q : Nat} {m : Int} (hk : k ≤ 24) : bits_Reader_Rice.j0 (q + 1) (k : Int) m false b (a : Int) = riceP b a k m q := by
  simp only [bits_Reader_Rice.j0]
  rw [if_neg (by decide), if_pos (Int.natCast_nonneg k), shr_i64 (by omega)]
  rfl
theorem rice_r {b : List Int} {a k q : Nat} {m : Int} (hk : k ≤ 24) : dioramaref01_Reader_Rice.j0 (q + 1) (k : Int) m false b (a : Int) = riceR b a k m q := by
  have e : IntKind.u64.wrap (k : Int) = (k : Int) := by rw [IntKind.wrap_u64]; omega
  simp only [dioramaref01_Reader_Rice.j0, e]
  rw [if_neg (by decide), if_pos (Int.natCast_nonneg k), shr_i64 (by omega)]
  rfl
theorem rice_main {b : List Int} {a k : Nat} {m : Int} (hl : b.length ≤ 1100000) (hb : ∀ y ∈ b, 0 ≤ y ∧ y ≤ 255) (ha : a ≤ 8 * b.length) (hk : k ≤ 24) (h0 : 0 ≤ m) (hm : m ≤ 9223372036854775807) : Alike b (fun q => riceP b a k m q) (fun q => riceR b a k m q) := by
  have z : ZOut b a (m / 2 ^ k) (fun q => bits_Reader_zeros.f q b (a : Int) (m / 2 ^ k)) (fun q => dioramaref01_Reader_zeros.f q b (a : Int) (m / 2 ^ k)) :=
    zeros_out (a := a) hl hb (Int.ediv_nonneg h0 (Int.le_of_lt (Int.pow_pos (by decide)))) (Int.le_trans (Int.ediv_le_self _ h0) hm) ha
  rcases z with ⟨n, h2, _, h4, h5⟩ | ⟨e, h2, h3, h4⟩
  · have e1 : wrap64 (wrap64 ((n : Int) + 1) + (k : Int)) = ((n + 1 + k : Nat) : Int) := by clear h4 h5; rw [w64 (x := (n : Int) + 1) (by omega) (by omega), w64 (by omega) (by omega)]; omega
    have e2 : wrap64 (wrap64 ((a : Int) + (n : Int)) + 1) = ((a + n + 1 : Nat) : Int) := by clear h4 h5; rw [w64 (x := (a : Int) + n) (by omega) (by omega), w64 (by omega) (by omega)]; omega
    by_cases h6 : a + n + 1 + k ≤ 8 * b.length
    · have e3 : wrap64 (((a + n + 1 : Nat) : Int) + (k : Int)) = ((a + n + 1 + k : Nat) : Int) := place_ar (by omega)
      have c1 : ¬ (((8 * b.length - (a + n + 1) : Nat) : Int) < (k : Int)) := by omega
      have c2 : ¬ (((n + 1 + k : Nat) : Int) > ((8 * b.length - a : Nat) : Int)) := by omega
      have rp := raw_ev (p := a + n + 1) (n := k) (a : Int) hl hb (by omega) h6
      have rr := number_ev (p := a + n + 1) (n := k) (a : Int) hl hb (by omega) h6
      obtain ⟨j1, j2, _⟩ := join_i64 (n := n) (w := numB b (a + n + 1) k) (k := k) (by omega) (by omega) (numB_lt b (a + n + 1) k)
      by_cases h7 : ((n * 2 ^ k + numB b (a + n + 1) k : Nat) : Int) > m
      · refine ⟨0, 4, a, ha, Ev.bind h4 ?_, Ev.bind h5 ?_⟩
        · simp only [if_true, bit_left hl h2, if_neg c1]
          refine Ev.bind rp ?_
          simp only [j1, if_pos h7]
          exact Ev.now _
        · simp only [if_true, left_r hl ha, Option.bind_some, e1, e2, if_neg c2]
          refine Ev.bind rr ?_
          simp only [j2, if_pos h7]
          exact Ev.now _
      · refine ⟨((n * 2 ^ k + numB b (a + n + 1) k : Nat) : Int), 0, a + n + 1 + k, h6, Ev.bind h4 ?_, Ev.bind h5 ?_⟩
        · simp only [if_true, bit_left hl h2, if_neg c1]
          refine Ev.bind rp ?_
          simp only [j1, if_neg h7, e3]
          exact Ev.now _
        · simp only [if_true, left_r hl ha, Option.bind_some, e1, e2, if_neg c2]
          refine Ev.bind rr ?_
          simp only [j2, if_neg h7, e2, e3]
          exact Ev.now _
    · have c1 : ((8 * b.length - (a + n + 1) : Nat) : Int) < (k : Int) := by omega
      have c2 : ((n + 1 + k : Nat) : Int) > ((8 * b.length - a : Nat) : Int) := by omega
      refine ⟨0, 3, a, ha, Ev.bind h4 ?_, Ev.bind h5 ?_⟩
      · simp only [if_true, bit_left hl h2, if_pos c1]
        exact Ev.now _
      · simp only [if_true, left_r hl ha, Option.bind_some, e1, if_pos c2]
        exact Ev.now _
  · refine ⟨0, e, a, ha, Ev.bind h3 ?_, Ev.bind h4 ?_⟩
    · simp only [if_neg h2]; exact Ev.now _
    · simp only [if_neg h2]; exact Ev.now _
theorem Alike.step {b : List Int} {P P' R R' : Nat → Option (Int × Int × Int)} (h : ∀ k, P (k + 1) = P' k) (h' : ∀ k, R (k + 1) = R' k) (z : Alike b P' R') : Alike b P R := by
  obtain ⟨v, e, a, h1, h2, h3⟩ := z
  exact ⟨v, e, a, h1, Ev.step h h2, Ev.step h' h3⟩
theorem rice_alike {b : List Int} {a : Nat} {k m : Int} (hl : b.length ≤ 1100000) (hb : ∀ y ∈ b, 0 ≤ y ∧ y ≤ 255) (ha : a ≤ 8 * b.length) (hm : m ≤ 9223372036854775807) : Alike b (fun q => bits_Reader_Rice.f q b (a : Int) k m) (fun q => dioramaref01_Reader_Rice.f q b (a : Int) k m) := by
  unfold bits_Reader_Rice.f dioramaref01_Reader_Rice.f
  by_cases h1 : k < 0
  · simp only [if_pos h1]; exact rice_bad ha
  · simp only [if_neg h1]
    by_cases h2 : k > 24
    · simp only [if_pos h2]; exact rice_bad ha
    · simp only [if_neg h2]
      by_cases h3 : m < 0
      · rw [decide_eq_true h3]; exact rice_bad ha
      · rw [decide_eq_false h3]
        obtain ⟨n, rfl⟩ := Int.eq_ofNat_of_zero_le (show 0 ≤ k by omega)
        exact Alike.step (fun q => rice_p (by omega)) (fun q => rice_r (by omega)) (rice_main hl hb ha (by omega) (by omega) hm)
theorem grow_alike {b : List Int} {a : Nat} (hl : b.length ≤ 1100000) (hb : ∀ y ∈ b, 0 ≤ y ∧ y ≤ 255) (ha : a ≤ 8 * b.length) : Alike b (fun q => bits_Reader_Grow.f q b (a : Int)) (fun q => dioramaref01_Reader_Grow.f q b (a : Int)) := by
  unfold bits_Reader_Grow.f dioramaref01_Reader_Grow.f
  rcases zeros_out (a := a) (most := 32) hl hb (by decide) (by decide) ha with ⟨n, h2, h32, h4, h5⟩ | ⟨e, h2, h3, h4⟩
  · have e1 : wrap64 (wrap64 (2 * (n : Int)) + 1) = ((2 * n + 1 : Nat) : Int) := by rw [w64 (x := 2 * (n : Int)) (by omega) (by omega), w64 (by omega) (by omega)]; omega
    have e2 : wrap64 (wrap64 ((a : Int) + (n : Int)) + 1) = ((a + n + 1 : Nat) : Int) := by rw [w64 (x := (a : Int) + n) (by omega) (by omega), w64 (by omega) (by omega)]; omega
    have e4 : wrap64 (wrap64 ((a : Int) + wrap64 (2 * (n : Int))) + 1) = ((a + n + 1 + n : Nat) : Int) := by rw [w64 (x := 2 * (n : Int)) (by omega) (by omega), w64 (x := (a : Int) + 2 * n) (by omega) (by omega), w64 (by omega) (by omega)]; omega
    have eu : IntKind.u64.wrap (n : Int) = (n : Int) := by rw [IntKind.wrap_u64]; omega
    by_cases h6 : a + n + 1 + n ≤ 8 * b.length
    · have e3 : wrap64 (((a + n + 1 : Nat) : Int) + (n : Int)) = ((a + n + 1 + n : Nat) : Int) := place_ar (by omega)
      have c1 : ¬ (((8 * b.length - (a + n + 1) : Nat) : Int) < (n : Int)) := by omega
      have c2 : ¬ (((2 * n + 1 : Nat) : Int) > ((8 * b.length - a : Nat) : Int)) := by omega
      have c3 : (0 : Int) ≤ (n : Int) := Int.natCast_nonneg n
      have rp := raw_ev (p := a + n + 1) (n := n) (a : Int) hl hb (by omega) h6
      have rr := number_ev (p := a + n + 1) (n := n) (a : Int) hl hb (by omega) h6
      obtain ⟨j1, j2, j3⟩ := join_i64 (n := 1) (w := numB b (a + n + 1) n) (k := n) (by omega) (by omega) (numB_lt b (a + n + 1) n)
      simp only [Int.natCast_one] at j1 j2
      by_cases h7 : wrap64 (((1 * 2 ^ n + numB b (a + n + 1) n : Nat) : Int) - 1) > 4294967294
      · refine ⟨0, 4, a, ha, Ev.bind h4 ?_, Ev.bind h5 ?_⟩
        · simp only [if_true, bit_left hl h2, if_neg c1, if_pos c3]
          refine Ev.bind rp ?_
          simp only [j1, if_pos h7]
          exact Ev.now _
        · simp only [if_true, left_r hl ha, Option.bind_some, e1, e2, eu, if_neg c2, if_pos c3]
          refine Ev.bind rr ?_
          simp only [j2, if_pos h7]
          exact Ev.now _
      · refine ⟨wrap64 (((1 * 2 ^ n + numB b (a + n + 1) n : Nat) : Int) - 1), 0, a + n + 1 + n, h6, Ev.bind h4 ?_, Ev.bind h5 ?_⟩
        · simp only [if_true, bit_left hl h2, if_neg c1, if_pos c3]
          refine Ev.bind rp ?_
          simp only [j1, if_neg h7, e3]
          exact Ev.now _
        · simp only [if_true, left_r hl ha, Option.bind_some, e1, e2, eu, if_neg c2, if_pos c3]
          refine Ev.bind rr ?_
          simp only [j2, if_neg h7, e4]
          exact Ev.now _
    · have c1 : ((8 * b.length - (a + n + 1) : Nat) : Int) < (n : Int) := by omega
      have c2 : ((2 * n + 1 : Nat) : Int) > ((8 * b.length - a : Nat) : Int) := by omega
      refine ⟨0, 3, a, ha, Ev.bind h4 ?_, Ev.bind h5 ?_⟩
      · simp only [if_true, bit_left hl h2, if_pos c1]
        exact Ev.now _
      · simp only [if_true, left_r hl ha, Option.bind_some, e1, if_pos c2]
        exact Ev.now _
  · refine ⟨0, e, a, ha, Ev.bind h3 ?_, Ev.bind h4 ?_⟩
    · simp only [if_neg h2]; exact Ev.now _
    · simp only [if_neg h2]; exact Ev.now _
theorem align_alike {b : List Int} {a : Nat} (hl : b.length ≤ 1100000) (ha : a ≤ 8 * b.length) : ∃ a' : Nat, a' ≤ 8 * b.length ∧ bits_Reader_Align.f b (a : Int) = some (a' : Int) ∧ dioramaref01_Reader_Align.f b (a : Int) = some (a' : Int) := by
  have e : wrap64 (wrap64 (Int.tdiv (wrap64 ((a : Int) + 7)) 8) * 8) = (((a + 7) / 8 * 8 : Nat) : Int) := by
    rw [w64 (x := (a : Int) + 7) (by omega) (by omega), Int.tdiv_eq_ediv_of_nonneg (by omega), w64 (x := ((a : Int) + 7) / 8) (by omega) (by omega), w64 (by omega) (by omega)]
    omega
  refine ⟨(a + 7) / 8 * 8, by omega, ?_, ?_⟩
  · unfold bits_Reader_Align.f; rw [e]
  · unfold dioramaref01_Reader_Align.f; rw [e]
end Go.Proofs.Ytlhdfdedhdcmiaa.Pure
