/- What is proved: bits turned among 32 neighbouring ones of a page's bytes, ahead of its sum, are seen by the sum. This text: the statement about numbers and lists alone. No condition. -/
import Derived.Test.YtaebgjdaoloceaaPEnc
import Derived.Test.YtaebgjdaoloceaaPDecP
import Derived.Test.YtaebgjdaoloceaaPCrcP
import Derived.Test.YtaebgjdaoloceaaPCopy
import Derived.Test.YtaebgjdaoloceaaPSmallP
import Derived.Test.YtaebgjdaoloceaaPAwake19
import Derived.Test.YtaebgjdaoloceaaQBmpBx5
set_option linter.unusedSimpArgs false
namespace Go.Proofs.Ytaebgjdaoloceaa.Pure
open Go.RowKit Go.Proofs.Ytaebgjdaoloceaa.QBmpB Go.Proofs.YtaebgjdaoloceaaW.PrintWords Go.Proofs.YtaebgjdaoloceaaW.PrintMore Go.Proofs.YtaebgjdaoloceaaV Go.Proofs.Ytaebgjdaoloceaa.PureB Go.Proofs.Ytaebgjdaoloceaa.PureD
theorem xor_lt8 {a b : Nat} (ha : a < 256) (hb : b < 256) : a ^^^ b < 256 := Nat.xor_lt_two_pow (n := 8) ha hb
theorem shl_u8 (r : Nat) (h : r < 8) : shl .u8 1 (r : Int) = ((2 ^ r : Nat) : Int) ∧ 2 ^ r < 256 := by
  have : r = 0 ∨ r = 1 ∨ r = 2 ∨ r = 3 ∨ r = 4 ∨ r = 5 ∨ r = 6 ∨ r = 7 := by omega
  rcases this with rfl | rfl | rfl | rfl | rfl | rfl | rfl | rfl <;> decide +kernel
theorem rd_mem {l : List Int} {i : Nat} (h : i < l.length) : rd l (i : Int) ∈ l := by
  unfold rd
  rw [Int.toNat_natCast, List.getD_eq_getElem?_getD, List.getElem?_eq_getElem h]
  exact List.getElem_mem _
theorem burst_ar {an i n : Nat} (h : an < 8 * n) (hn : n ≤ 1000000) (hi : i < 32) : wrap64 ((an : Int) + (i : Int)) = ((an + i : Nat) : Int) ∧ wrap64 (8 * (n : Int)) = ((8 * n : Nat) : Int) ∧ IntKind.u64.wrap (i : Int) = (i : Int) ∧ wrap64 ((i : Int) + 1) = ((i + 1 : Nat) : Int) := by
  rw [w64 (by omega) (by omega), w64 (by omega) (by omega), w64 (by omega) (by omega), IntKind.wrap_u64]
  omega
theorem burst_ar2 {m : Nat} (h : m < 8000000) : wrap64 (Int.tdiv (m : Int) 8) = ((m / 8 : Nat) : Int) ∧ IntKind.u64.wrap (Int.tmod (m : Int) 8) = ((m % 8 : Nat) : Int) := by
  rw [Int.tdiv_eq_ediv_of_nonneg (by omega), Int.tmod_eq_emod_of_nonneg (by omega), w64 (by omega) (by omega), IntKind.wrap_u64]
  omega
theorem turn8 {x : Int} {r : Nat} (h0 : 0 ≤ x) (h1 : x ≤ 255) (hr : r < 8) : Go.bits .xor .u8 x (shl .u8 1 (r : Int)) = ((x.toNat ^^^ 2 ^ r : Nat) : Int) ∧ x.toNat ^^^ 2 ^ r < 256 := by
  obtain ⟨s1, s2⟩ := shl_u8 r hr
  have h2 : x.toNat < 256 := by omega
  refine ⟨?_, xor_lt8 h2 s2⟩
  rw [s1, ← u8_xor_nat x.toNat (2 ^ r) h2 s2, Int.toNat_of_nonneg h0]
theorem grow_bit {b i : Nat} (h : b < 2 ^ i) : b ^^^ 2 ^ i ≠ 0 ∧ b ^^^ 2 ^ i < 2 ^ (i + 1) := by
  have h1 : 2 ^ (i + 1) = 2 * 2 ^ i := by rw [Nat.pow_succ, Nat.mul_comm]
  have h3 := Nat.two_pow_pos i
  refine ⟨fun e => ?_, Nat.xor_lt_two_pow (by omega) (by omega)⟩
  have h2 : b = 2 ^ i := by
    have := congrArg (· ^^^ 2 ^ i) e
    simpa only [Nat.xor_assoc, Nat.xor_self, Nat.xor_zero, Nat.zero_xor] using this
  omega
theorem mem_turn {c : List Int} {q x : Nat} (hcb : ∀ y ∈ c, 0 ≤ y ∧ y ≤ 255) (hx : x < 256) : ∀ y ∈ c.set q (x : Int), 0 ≤ y ∧ y ≤ 255 := fun y hy => by
  rcases List.mem_or_eq_of_mem_set hy with h | h
  · exact hcb y h
  · rw [h]; omega
theorem le_turn {l c : List Int} {an b i : Nat} (hq : (an + i) / 8 < c.length) (hcb : ∀ y ∈ c, 0 ≤ y ∧ y ≤ 255) (hle : le c = le l ^^^ (2 ^ an * b)) :
    le (c.set ((an + i) / 8) (((rd c (((an + i) / 8 : Nat) : Int)).toNat ^^^ 2 ^ ((an + i) % 8) : Nat) : Int)) = le l ^^^ (2 ^ an * (b ^^^ 2 ^ i)) := by
  have e : 8 * ((an + i) / 8) + (an + i) % 8 = an + i := Nat.div_add_mod _ _
  rw [le_set c _ _ hq (fun y hy => (hcb y hy).1), hle, mul_xor, Nat.xor_assoc, ← Nat.pow_add, ← Nat.pow_add, e]
theorem pow_le32 {i : Nat} (h : i ≤ 32) : 2 ^ i ≤ 4294967296 := Nat.le_trans (Nat.pow_le_pow_right (by decide) h) (by decide)
theorem within_ev {a : Int} {n : Nat} (h : 0 < n) (hn : n ≤ 4294967296) : ∃ an : Nat, an < n ∧ dioramaref00_Within.f a (n : Int) = some (an : Int) := by
  unfold dioramaref00_Within.f
  have e : IntKind.u64.wrap (n : Int) = (n : Int) := by rw [IntKind.wrap_u64]; omega
  rw [e, if_neg (by omega)]
  have h0 : 0 ≤ IntKind.u64.wrap a := by rw [IntKind.wrap_u64]; omega
  have h1 := Int.emod_nonneg (IntKind.u64.wrap a) (show (n : Int) ≠ 0 by omega)
  have h2 := Int.emod_lt_of_pos (IntKind.u64.wrap a) (show (0 : Int) < (n : Int) by omega)
  rw [Int.tmod_eq_emod_of_nonneg h0, w64 (by omega) (by omega)]
  exact ⟨(IntKind.u64.wrap a % (n : Int)).toNat, by omega, by rw [Int.toNat_of_nonneg h1]⟩
theorem numS_big : ∀ (n : Nat) (v : Int), 0 ≤ v → v < 256 ^ n → numS (bigS v n) = v
  | 0, v, h0, h1 => by rw [Int.pow_zero] at h1; simp [bigS, numS]; omega
  | n + 1, v, h0, h1 => by
    rw [Int.pow_succ] at h1
    rw [bigS, numS_snoc, numS_big n (v / 256) (by omega) (by omega)]
    omega
theorem sum4 {v : Int} (h0 : 0 ≤ v) (h1 : v ≤ 4294967295) : (putS v 4).1.length = 4 ∧ numS (putS v 4).1 = v := by
  have e : (putS v 4).1 = bigS v 4 := by
    unfold putS
    rw [if_neg (by
      have : (2 : Int) ^ (8 * (4 : Int).toNat) = 4294967296 := by decide
      rw [this]; omega)]
    rfl
  rw [e, bigS_length]
  exact ⟨rfl, numS_big 4 v h0 (by have : (256 : Int) ^ 4 = 4294967296 := by decide
                                  omega)⟩
theorem le64 {a : Int} (h : (Lit.int .i64 a).wf = true) : a ≤ 9223372036854775807 := (i64b h).2
def SumIs (Y X : List Int) : Prop := numS Y = sumS X
theorem dec_chg {X c Y : List Int} (hY : Y.length = 4) (hn : numS Y = sumS X) (hc : 3 ≤ c.length) (h : sumS c ≠ sumS X) : decS (c ++ Y) = (false, [], [], 6) := by
  unfold decS
  have e : (c ++ Y).length - 4 = c.length := by rw [List.length_append]; omega
  rw [e, List.drop_left, List.take_left, if_neg (by rw [List.length_append]; omega), if_neg (by rw [hn]; exact fun e => h e.symm)]
theorem bb_end {X Y c : List Int} {g : Int} {an b i : Nat} (hY : Y.length = 4) (hYb : ∀ y ∈ Y, 0 ≤ y ∧ y ≤ 255) (hn : SumIs Y X) (h3 : 3 ≤ X.length) (hX : X.length ≤ 1000000) (hcl : c.length = X.length) (hcb : ∀ y ∈ c, 0 ≤ y ∧ y ≤ 255) (hle : le c = le X ^^^ (2 ^ an * b)) (han : an < 8 * X.length) (hb32 : b < 4294967296) :
    Ev (fun k => dioramalaw19_BitmapBursts.j3 k g (c ++ Y) ((8 * X.length : Nat) : Int) (an : Int) (decide (b ≠ 0)) (i : Int) false) true := by
  have hbb : Bs (c ++ Y) := fun y hy => by
    rcases List.mem_append.mp hy with hy | hy
    · exact hcb y hy
    · exact hYb y hy
  refine Ev.step (f := fun k => (bitmap_Decode.f k (c ++ Y)).bind fun bt => (if decide (b ≠ 0) = true then (if bt.2.2.2 = 6 then ((dioramalaw19_awake.f k).bind fun t => (some t)) else (some false)) else ((dioramalaw19_awake.f k).bind fun t => (some t)))) (fun k => by simp only [dioramalaw19_BitmapBursts.j3]; rw [if_neg (by simp)]) (Ev.bind (dec_ev hbb (by rw [List.length_append]; omega)) ?_)
  by_cases h : b = 0
  · simp only [decide_eq_false (show ¬ b ≠ 0 from fun e => e h), Bool.false_eq_true, if_false]
    exact Ev.bind ev_awake (Ev.now _)
  · have h1 := sumS_eq (l := X) (l' := c) hcl.symm
    rw [hle, ← Nat.xor_assoc, Nat.xor_self, Nat.zero_xor] at h1
    have h2 := burst_ne (n := 8 * X.length) (at_ := an) (b := b) (by omega) h hb32
    have h4 : sumS c ≠ sumS X := fun e => h2 (h1.mp e.symm)
    rw [dec_chg hY hn (by omega) h4]
    simp only [decide_eq_true h, if_true]
    exact Ev.bind ev_awake (Ev.now _)
theorem rd_left {c Y : List Int} {q : Nat} (h : q < c.length) : rd (c ++ Y) (q : Int) = rd c (q : Int) := by
  unfold rd
  rw [Int.toNat_natCast, List.getD_eq_getElem?_getD, List.getD_eq_getElem?_getD, List.getElem?_append_left h]
theorem bb_l0 {X Y : List Int} {g : Int} {an : Nat} (hY : Y.length = 4) (hYb : ∀ y ∈ Y, 0 ≤ y ∧ y ≤ 255) (hn : SumIs Y X) (h3 : 3 ≤ X.length) (hX : X.length ≤ 1000000) (han : an < 8 * X.length) : ∀ (d i b : Nat) (c : List Int), i + d = 32 → c.length = X.length → (∀ y ∈ c, 0 ≤ y ∧ y ≤ 255) → le c = le X ^^^ (2 ^ an * b) → b < 2 ^ i →
    Ev (fun k => dioramalaw19_BitmapBursts.l0 k g (c ++ Y) ((8 * X.length : Nat) : Int) (an : Int) (decide (b ≠ 0)) (i : Int)) true
  | 0, i, b, c, hi, hcl, hcb, hle, hbi => by
    have h32 : ¬ (i : Int) < 32 := by clear hle hbi; omega
    have hi2 : i ≤ 32 := by clear hle hbi; omega
    refine Ev.step (f := fun k => dioramalaw19_BitmapBursts.j3 k g (c ++ Y) ((8 * X.length : Nat) : Int) (an : Int) (decide (b ≠ 0)) (i : Int) false) (fun k => ?_) (bb_end hY hYb hn h3 hX hcl hcb hle han (Nat.lt_of_lt_of_le hbi (pow_le32 hi2)))
    simp only [dioramalaw19_BitmapBursts.l0]
    rw [if_neg h32]
  | d + 1, i, b, c, hi, hcl, hcb, hle, hbi => by
    have f1 : (i : Int) < 32 := by clear hle hbi; omega
    obtain ⟨e0, e8, ei, en⟩ := burst_ar (i := i) han hX (by clear hle hbi; omega)
    by_cases hin : an + i < 8 * X.length
    · refine Ev.step (f := fun k => dioramalaw19_BitmapBursts.j3 k g (c ++ Y) ((8 * X.length : Nat) : Int) (an : Int) (decide (b ≠ 0)) (i : Int) true) (fun k => ?_) ?_
      · simp only [dioramalaw19_BitmapBursts.l0]
        rw [if_pos f1, e0, decide_eq_true (show ((an + i : Nat) : Int) < ((8 * X.length : Nat) : Int) by clear hle hbi; omega)]
      · by_cases hbit : (Go.bits .and .u32 (shr .u32 g (i : Int)) 1) = 1
        · have hq : (an + i) / 8 < c.length := by clear hle hbi; omega
          have hq2 : (((an + i) / 8 : Nat) : Int) < ((c ++ Y).length : Int) := Int.ofNat_lt.mpr (by rw [List.length_append]; exact Nat.lt_add_right _ hq)
          obtain ⟨e3, e4⟩ := burst_ar2 (m := an + i) (by clear hle hbi; omega)
          have hm := hcb _ (rd_mem hq)
          obtain ⟨ex, hx⟩ := turn8 (r := (an + i) % 8) hm.1 hm.2 (Nat.mod_lt _ (by decide))
          obtain ⟨hb', hbi'⟩ := grow_bit hbi
          have ih := bb_l0 (g := g) hY hYb hn h3 hX han d (i + 1) (b ^^^ 2 ^ i) _ (by clear hle hbi hbi'; omega) (by rw [List.length_set]; exact hcl) (mem_turn hcb hx) (le_turn hq hcb hle) hbi'
          rw [decide_eq_true hb', ← List.set_append_left _ _ hq] at ih
          clear hle hbi hbi'
          refine Ev.step (fun k => ?_) ih
          simp only [dioramalaw19_BitmapBursts.j3]
          rw [if_pos trivial, ei, if_pos (Int.natCast_nonneg i), if_pos hbit, e0, e3, e4, if_pos (Int.natCast_nonneg _), if_pos hq2, if_pos (Int.natCast_nonneg _), rd_left hq, ex, en, Int.toNat_natCast]
        · have ih := bb_l0 (g := g) hY hYb hn h3 hX han d (i + 1) b c (by clear hle hbi; omega) hcl hcb hle (Nat.lt_of_lt_of_le hbi (Nat.pow_le_pow_right (by decide) (Nat.le_succ i)))
          refine Ev.step (fun k => ?_) ih
          clear hle hbi
          simp only [dioramalaw19_BitmapBursts.j3]
          rw [if_pos trivial, ei, if_pos (Int.natCast_nonneg i), if_neg hbit, en]
    · refine Ev.step (f := fun k => dioramalaw19_BitmapBursts.j3 k g (c ++ Y) ((8 * X.length : Nat) : Int) (an : Int) (decide (b ≠ 0)) (i : Int) false) (fun k => ?_) (bb_end hY hYb hn h3 hX hcl hcb hle han (Nat.lt_of_lt_of_le hbi (pow_le32 (by clear hle hbi; omega))))
      simp only [dioramalaw19_BitmapBursts.l0]
      rw [if_pos f1, e0, decide_eq_false (show ¬ ((an + i : Nat) : Int) < ((8 * X.length : Nat) : Int) by clear hle hbi; omega)]
theorem pch_len {x : S91} (h : x.f4.length ≤ 5000) : (pchB x).length ≤ 10050 := by
  have h1 := putS_length (v := x.f0) (n := 2)
  have h2 := putS_length (v := x.f1) (n := 2)
  have h3 := putS_length (v := ((runF x.f4 x.f2).1.length : Int)) (n := 2)
  have h4 := runF_len (w := x.f2) h
  simp only [pchB, List.length_append, List.length_cons, List.length_nil]
  omega
theorem flat_len {α : Type} {f : α → List Int} {n : Nat} : ∀ (l : List α), (∀ x ∈ l, (f x).length ≤ n) → (l.flatMap f).length ≤ n * l.length
  | [], _ => by simp
  | x :: t, h => by
    have := flat_len t (fun y hy => h y (by simp [hy]))
    have := h x (by simp)
    rw [List.flatMap_cons, List.length_append, List.length_cons, Nat.mul_add]
    omega
theorem head_len {cl : Bool} {pal : List Int} {pp : List S91} (h1 : pal.length ≤ 100) (h2 : pp.length ≤ 20) (h3 : ∀ x ∈ pp, x.f4.length ≤ 5000) : 3 ≤ (headB cl pal pp).length ∧ (headB cl pal pp).length ≤ 1000000 := by
  have e1 := flat_len (f := pchB) (n := 10050) pp (fun x hx => pch_len (h3 x hx))
  have e2 := flat_len (f := fun c => (putS c 3).1) (n := 8) pal (fun x _ => putS_length)
  simp only [headB, palB, List.length_append, List.length_cons, List.length_nil]
  have : 10050 * pp.length ≤ 10050 * 20 := Nat.mul_le_mul_left _ h2
  omega
theorem BitmapBursts : ∀ (a0_0 : Bool) (l0_1 : List (Int)) (l0_2 : List (S91)) (a1 : Int) (a2 : Int), l0_1.length ≤ maxLen → (∀ y ∈ l0_1, (Lit.int .i64 y).wf = true) → l0_2.length ≤ maxLen → (∀ y ∈ l0_2, ((Lit.int .i64 y.f0).wf = true) ∧ ((Lit.int .i64 y.f1).wf = true) ∧ ((Lit.int .i64 y.f2).wf = true) ∧ ((Lit.int .i64 y.f3).wf = true) ∧ (y.f4.length ≤ maxLen ∧ ∀ x0 ∈ y.f4, (Lit.int .i64 x0).wf = true)) → ((Lit.int .i64 a1).wf = true) → ((Lit.int .u32 a2).wf = true) → ∃ k, dioramalaw19_BitmapBursts.f k a0_0 l0_1 l0_2 a1 a2 = some true := by
  intro cl pal pp a g hm1 hw1 hm2 hw2 _ _
  unfold maxLen at hm1 hm2
  have bad : Ev (fun k => dioramalaw19_BitmapBursts.j0 k a g true cl pal pp) true :=
    Ev.step (f := fun k => (dioramalaw19_awake.f k).bind fun t => some t) (fun k => by simp only [dioramalaw19_BitmapBursts.j0]; rw [if_pos trivial]) (Ev.bind ev_awake (Ev.now _))
  apply Ev.rounds (g := fun k => dioramalaw19_BitmapBursts.f k cl pal pp a g)
  unfold dioramalaw19_BitmapBursts.f
  obtain ⟨r, hr, hs⟩ := ev_small (cl := cl) (pal := pal) (pp := pp) (by omega) (by omega)
  refine Ev.bind hr ?_
  cases r with
  | false => simp only [Bool.false_eq_true, if_false]; exact bad
  | true =>
    obtain ⟨s1, s2, s3⟩ := hs rfl
    simp only [if_true]
    by_cases hg : g = 0
    · have : (g == 0) = true := by simpa using hg
      rw [this]; exact bad
    · have : (g == 0) = false := by simpa using hg
      rw [this]
      refine Ev.step (f := fun k => (bitmap_Encode.f k cl pal pp).bind fun bt => (if bt.2 = 0 then (dioramalaw19_BitmapBursts.j1 k a g bt.1 bt.2 (decide ((bt.1.length : Int) < 5))) else (dioramalaw19_BitmapBursts.j1 k a g bt.1 bt.2 true))) (fun k => by simp only [dioramalaw19_BitmapBursts.j0]; rw [if_neg (by simp)]) (Ev.bind (enc_ev (fun x hx => ⟨s3 x hx, le64 (hw2 x hx).1, le64 (hw2 x hx).2.1⟩) s2 (fun c hc => le64 (hw1 c hc)) (by omega)) ?_)
      unfold encF
      by_cases hc : checkF pal pp = 0
      · rw [if_pos hc]
        obtain ⟨h3, hX⟩ := head_len (cl := cl) s1 s2 s3
        have hXb := headB_in cl pal pp
        generalize headB cl pal pp = X at h3 hX hXb
        have hsum := sumS_in hXb
        obtain ⟨hY, hn⟩ := sum4 hsum.1 hsum.2
        have hYb := putS_in (sumS X) 4
        have hn : SumIs (putS (sumS X) 4).1 X := hn
        clear hsum
        generalize (putS (sumS X) 4).1 = Y at hY hn hYb
        have hl : (X ++ Y).length = X.length + 4 := by rw [List.length_append, hY]
        simp only [if_true, decide_eq_false (show ¬ ((X ++ Y).length : Int) < 5 by omega)]
        obtain ⟨an, han, hw⟩ := within_ev (a := a) (n := 8 * X.length) (by omega) (by omega)
        have key := bb_l0 (g := g) hY hYb hn h3 hX han 32 0 0 X rfl rfl hXb (by simp) (by simp)
        have e4 : wrap64 (((X ++ Y).length : Int) - 4) = (X.length : Int) := by rw [w64 (by omega) (by omega)]; omega
        have e8 : wrap64 (8 * (X.length : Int)) = ((8 * X.length : Nat) : Int) := by rw [w64 (by omega) (by omega)]; omega
        refine Ev.step (f := fun k => (dioramaref00_CopyBytes.f k (X ++ Y)).bind fun c => dioramalaw19_BitmapBursts.l0 k g c ((8 * X.length : Nat) : Int) (an : Int) false 0) (fun k => ?_) (Ev.bind (copyb_ev (by omega)) key)
        simp only [dioramalaw19_BitmapBursts.j1]
        rw [if_neg (by simp), e4, e8, hw]
        simp only [Option.bind_some]
      · rw [if_neg hc]
        simp only [if_neg hc]
        refine Ev.step (f := fun k => (dioramalaw19_awake.f k).bind fun t => some t) (fun k => ?_) (Ev.bind ev_awake (Ev.now _))
        simp only [dioramalaw19_BitmapBursts.j1]
        rw [if_pos trivial, if_neg hc]
end Go.Proofs.Ytaebgjdaoloceaa.Pure
