/- Part of a proof: functions of the program as Lean functions, and that the machine's calls come to them. Made by a program of this session (wip/mp). -/
import Derived.Test.YtdiemkeflmflaaaQSoundx0
import Derived.Test.YtdiemkeflmflaaaQSoundx1
import Derived.Test.YtdiemkeflmflaaaQSoundx2
namespace Go.Proofs.Ytdiemkeflmflaaa.QSound
open Go.RowKit Go.Proofs.YtdiemkeflmflaaaV Go.Proofs.YtdiemkeflmflaaaW.PrintWords Go.Proofs.YtdiemkeflmflaaaW.PrintLast Go.Proofs.YtdiemkeflmflaaaW.PrintMore
attribute [local go_sem] max2_int min2_int max_two min_two max_three min_three max_four min_four   -- for this text's walks alone
set_option linter.unusedVariables false
set_option linter.unusedSimpArgs false

/-! ### sound_Left: function 20 -/
/-- The number k before the last one of the first t of a list; 0 if there is none. -/
def bef (l : List Int) (t k : Nat) : Int := if k < t then rd l ((t - 1 - k : Nat) : Int) else 0
theorem before_f (l : List Int) (k : Nat) (hl : l.length ≤ 4611686018427387904) : sound_before.f l (k : Int) = some (bef l l.length k) := by
  unfold sound_before.f bef
  by_cases h : k < l.length
  · have e1 : wrap64 (wrap64 ((l.length : Int) - 1) - (k : Int)) = ((l.length - 1 - k : Nat) : Int) := by unfold wrap64; omega
    rw [if_neg (by omega), if_pos h, e1, if_pos (by omega), if_pos (by omega)]
  · rw [if_pos (by omega), if_neg h]
def bin (o : Nat) : Nat → Int
  | 0 => 1
  | i + 1 => Int.tdiv (bin o i * ((o : Int) - (i : Int))) ((i : Int) + 1)
def sumP (o : Nat) (b : Nat → Int) : Nat → Int
  | 0 => 0
  | i + 1 => if i % 2 = 0 then sumP o b i + bin o (i + 1) * b i else sumP o b i - bin o (i + 1) * b i
def sumA (w : Nat → Int) (b : Nat → Int) : Nat → Int
  | 0 => 0
  | i + 1 => wrap64 (sumA w b i + wrap64 (w i * b i))
structure IsP (W : World) (g : Nat) (o : Int) (f : Nat → Int) : Prop where
  hg : W.heap[g]? = some (.cells #[.int .i64 o, .int .i64 (f 0), .int .i64 (f 1), .int .i64 (f 2), .int .i64 (f 3)] 142 (0, 0))
theorem index_w (f : Nat → Int) (i : Nat) (h : i < 4) (w : World) : (Instr.index 140 (.agg #[.int .i64 (f 0), .int .i64 (f 1), .int .i64 (f 2), .int .i64 (f 3)]) (.int .i64 (i : Int))).run Try.prog w = .ok (.int .i64 (f i)) w := by
  have x0 : (Instr.index 140 (.agg #[.int .i64 (f 0), .int .i64 (f 1), .int .i64 (f 2), .int .i64 (f 3)]) (.int .i64 ((0 : Nat) : Int))).run Try.prog w = .ok (.int .i64 (f 0)) w := by kernel_rfl
  have x1 : (Instr.index 140 (.agg #[.int .i64 (f 0), .int .i64 (f 1), .int .i64 (f 2), .int .i64 (f 3)]) (.int .i64 ((1 : Nat) : Int))).run Try.prog w = .ok (.int .i64 (f 1)) w := by kernel_rfl
  have x2 : (Instr.index 140 (.agg #[.int .i64 (f 0), .int .i64 (f 1), .int .i64 (f 2), .int .i64 (f 3)]) (.int .i64 ((2 : Nat) : Int))).run Try.prog w = .ok (.int .i64 (f 2)) w := by kernel_rfl
  have x3 : (Instr.index 140 (.agg #[.int .i64 (f 0), .int .i64 (f 1), .int .i64 (f 2), .int .i64 (f 3)]) (.int .i64 ((3 : Nat) : Int))).run Try.prog w = .ok (.int .i64 (f 3)) w := by kernel_rfl
  have c : i = 0 ∨ i = 1 ∨ i = 2 ∨ i = 3 := by omega
  rcases c with rfl | rfl | rfl | rfl
  · exact x0
  · exact x1
  · exact x2
  · exact x3
set_option maxRecDepth 100000 in
set_option maxHeartbeats 1000000 in
theorem predict5_calls {w : World} {g : Nat} {f : Nat → Int} (h : IsP w g 5 f) (A0 : Option Addr) (c0 : Nat) (l0 : List Int) (hr0 : Kd.C (Kd.int .i64) w A0 l0.length l0) (hc0 : l0.length ≤ c0) (hl : l0.length ≤ 4611686018427387904) :
    Calls Try.prog 65 #[.pointer (some ⟨g, 0, none⟩), .slice A0 l0.length c0] w fun e w' => e = .returned (.int .i64 (sumA f (bef l0 l0.length) 4 / 2 ^ 10)) ∧ ∃ m, w' = w.drewN m := by
  have HR := Aside0.mk hr0
  have HC := Aside0.mk hc0
  have HL := Aside0.mk hl
  have c0' : w.cell? ⟨g, 0, none⟩ = some (.int .i64 5) := (blk_cell h.hg 0).trans rfl
  have c1' : w.cell? ⟨g, 1, none⟩ = some (.int .i64 (f 0)) := (blk_cell h.hg 1).trans rfl
  have c2' : w.cell? ⟨g, 2, none⟩ = some (.int .i64 (f 1)) := (blk_cell h.hg 2).trans rfl
  have c3' : w.cell? ⟨g, 3, none⟩ = some (.int .i64 (f 2)) := (blk_cell h.hg 3).trans rfl
  have c4' : w.cell? ⟨g, 4, none⟩ = some (.int .i64 (f 3)) := (blk_cell h.hg 4).trans rfl
  clear hr0 hc0 hl h
  go_enter Try.func65, Try.ntmps65
  go_wp2_with fail
  go_loopg [5, 20] 5 (fun kq v5 v20 w' => ∃ (i n : Nat) (s : Int), v20 = .int .i64 (i : Int) ∧ v5 = .int .i64 s ∧ Aside0 (s = sumA f (bef l0 l0.length) i) ∧ Aside0 (kq = 4 - i + 1) ∧ Aside0 (i ≤ 4) ∧ Aside0 (w' = w.drewN n))
  case atStart => exact ⟨0, 0, 0, rfl, rfl, ⟨rfl⟩, ⟨rfl⟩, ⟨by omega⟩, ⟨rfl⟩⟩
  case round =>
    obtain ⟨i, n, s, rfl, rfl, HS, HQ, HI, HW⟩ := hrel
    have hw := HW.out
    subst hw
    clear HW
    have hi := HI.out
    by_cases h4 : i = 4
    · subst h4
      clear hi HI
      go_wp2_with fail
      go_ret
      exact ⟨by rw [← HS.out]; rfl, n, rfl⟩
    · have hlt : i < 4 := by omega
      have HLT := Aside0.mk hlt
      have xi := index_w f i hlt
      have hi1 : decide ((i : Int) < 4) = true := decide_eq_true (by omega)
      have hi2 : decide (i < 4) = true := decide_eq_true hlt
      have e8 : wrap64 ((i : Int) + 1) = ((i + 1 : Nat) : Int) := by unfold wrap64; omega
      have HI := HI
      clear hi h4 hlt
      go_wp2_with fail
      refine (sound_before.calls A0 c0 l0 (i : Int) _ _ (Kd.C_drewN HR.out n) HC.out (before_f l0 i HL.out)).mono ?_
      rintro e w2 ⟨rfl, ⟨n2, rfl⟩⟩
      go_wp2_with fail
      go_roundg (4 - i)
      case measure => have := HQ.out; have := HLT.out; omega
      case rel => exact ⟨i + 1, n + n2, _, by rw [e8], rfl, ⟨by rw [HS.out]; rfl⟩, ⟨by have := HLT.out; omega⟩, ⟨by have := HLT.out; omega⟩, ⟨rfl⟩⟩
theorem bef_le {l : List Int} {M : Int} (h0 : 0 ≤ M) (hb : ∀ x ∈ l, -M ≤ x ∧ x ≤ M) (t k : Nat) (ht : t ≤ l.length) : -M ≤ bef l t k ∧ bef l t k ≤ M := by
  unfold bef
  by_cases h : k < t
  · rw [if_pos h]
    have hx : t - 1 - k < l.length := by omega
    have e : rd l ((t - 1 - k : Nat) : Int) = l[t - 1 - k] := by simp [rd, List.getD, List.getElem?_eq_getElem hx]
    rw [e]
    exact hb _ (List.getElem_mem hx)
  · rw [if_neg h]; omega
theorem bin_le (o i : Nat) (ho : o ≤ 4) (hi : i ≤ o) : 0 ≤ bin o i ∧ bin o i ≤ 6 := by
  have c : o = 0 ∨ o = 1 ∨ o = 2 ∨ o = 3 ∨ o = 4 := by omega
  have d : i = 0 ∨ i = 1 ∨ i = 2 ∨ i = 3 ∨ i = 4 := by omega
  rcases c with rfl | rfl | rfl | rfl | rfl <;> rcases d with rfl | rfl | rfl | rfl | rfl <;> first | decide | (exfalso; omega)
theorem bin_mul (o i : Nat) (ho : o ≤ 4) (hi : i ≤ o) : 0 ≤ bin o i * ((o : Int) - (i : Int)) ∧ bin o i * ((o : Int) - (i : Int)) ≤ 24 := by
  have c : o = 0 ∨ o = 1 ∨ o = 2 ∨ o = 3 ∨ o = 4 := by omega
  have d : i = 0 ∨ i = 1 ∨ i = 2 ∨ i = 3 ∨ i = 4 := by omega
  rcases c with rfl | rfl | rfl | rfl | rfl <;> rcases d with rfl | rfl | rfl | rfl | rfl <;> first | decide | (exfalso; omega)
theorem mul_le {a b : Int} (h1 : 0 ≤ a) (h2 : a ≤ 6) (h3 : -67108864 ≤ b) (h4 : b ≤ 67108864) : -402653184 ≤ a * b ∧ a * b ≤ 402653184 := by
  have c : a = 0 ∨ a = 1 ∨ a = 2 ∨ a = 3 ∨ a = 4 ∨ a = 5 ∨ a = 6 := by omega
  rcases c with rfl | rfl | rfl | rfl | rfl | rfl | rfl <;> omega
theorem sumP_le (o : Nat) (b : Nat → Int) (hb : ∀ k, -67108864 ≤ b k ∧ b k ≤ 67108864) (ho : o ≤ 4) : ∀ i, i ≤ o → -402653184 * (i : Int) ≤ sumP o b i ∧ sumP o b i ≤ 402653184 * (i : Int)
  | 0, _ => by simp [sumP]
  | i + 1, h => by
    have ih := sumP_le o b hb ho i (by omega)
    have := bin_le o (i + 1) ho h
    have := mul_le this.1 this.2 (hb i).1 (hb i).2
    unfold sumP
    split <;> omega
set_option maxRecDepth 100000 in
set_option maxHeartbeats 1000000 in
theorem predictO_calls {w : World} {g o : Nat} {f : Nat → Int} (ho : o ≤ 4) (h : IsP w g (o : Int) f) (A0 : Option Addr) (c0 : Nat) (l0 : List Int) (hr0 : Kd.C (Kd.int .i64) w A0 l0.length l0) (hc0 : l0.length ≤ c0) (hl : l0.length ≤ 4611686018427387904) (hb : ∀ x ∈ l0, -67108864 ≤ x ∧ x ≤ 67108864) :
    Calls Try.prog 65 #[.pointer (some ⟨g, 0, none⟩), .slice A0 l0.length c0] w fun e w' => e = .returned (.int .i64 (sumP o (bef l0 l0.length) o)) ∧ ∃ m, w' = w.drewN m := by
  have HR := Aside0.mk hr0
  have HC := Aside0.mk hc0
  have HL := Aside0.mk hl
  have HO := Aside0.mk ho
  have HB := Aside0.mk (fun k => bef_le (M := 67108864) (by omega) hb l0.length k (Nat.le_refl _))
  have c0' : w.cell? ⟨g, 0, none⟩ = some (.int .i64 (o : Int)) := (blk_cell h.hg 0).trans rfl
  have h5 : decide ((o : Int) = 5) = false := decide_eq_false (by omega)
  have h5' : ((o : Int) == 5) = false := beq_eq_false_iff_ne.mpr (by omega)
  clear hr0 hc0 hl h ho hb
  go_enter Try.func65, Try.ntmps65
  go_wp2_with fail
  go_loopg [8, 9, 38] (o + 1) (fun kq v8 v9 v38 w' => ∃ (i n : Nat) (b s : Int), v38 = .int .i64 (i : Int) ∧ v8 = .int .i64 s ∧ v9 = .int .i64 b ∧ Aside0 (s = sumP o (bef l0 l0.length) i ∧ b = bin o i) ∧ Aside0 (kq = o - i + 1) ∧ Aside0 (i ≤ o) ∧ Aside0 (w' = w.drewN n))
  case atStart => exact ⟨0, 0, 1, 0, rfl, rfl, rfl, ⟨rfl, rfl⟩, ⟨by omega⟩, ⟨by omega⟩, ⟨rfl⟩⟩
  case round =>
    obtain ⟨i, n, b, s, rfl, rfl, rfl, HS, HQ, HI, HW⟩ := hrel
    have hw := HW.out
    subst hw
    clear HW
    have hi := HI.out
    by_cases h4 : i = o
    · subst h4
      have hlt0 : decide ((i : Int) < (i : Int)) = false := decide_eq_false (by omega)
      clear hi HI
      go_wp2_with fail
      go_ret
      exact ⟨by rw [← HS.out.1]; rfl, n, rfl⟩
    · have hlt : i < o := by omega
      have HLT := Aside0.mk hlt
      have hi1 : decide ((i : Int) < (o : Int)) = true := decide_eq_true (by omega)
      have hi2 : decide (i < o) = true := decide_eq_true (by omega)
      have hi3 : i < o := hlt
      have ho := HO.out
      have e3 : wrap64 ((i : Int) + 1) = ((i + 1 : Nat) : Int) := by unfold wrap64; omega
      have e1 : wrap64 ((o : Int) - (i : Int)) = (o : Int) - (i : Int) := by unfold wrap64; omega
      obtain ⟨rfl, rfl⟩ := HS.out
      have e2 : wrap64 (bin o i * ((o : Int) - (i : Int))) = bin o i * ((o : Int) - (i : Int)) := by
        have := bin_mul o i ho hi
        unfold wrap64; omega
      have e4 : Int.tdiv (bin o i * ((o : Int) - (i : Int))) ((i : Int) + 1) = bin o (i + 1) := by
        rw [bin]
      have e4' : wrap64 (bin o (i + 1)) = bin o (i + 1) := by
        have := bin_le o (i + 1) ho (by omega)
        unfold wrap64; omega
      have e5 : wrap64 (bin o (i + 1) * bef l0 l0.length i) = bin o (i + 1) * bef l0 l0.length i := by
        have a := bin_le o (i + 1) ho (by omega)
        have := mul_le a.1 a.2 (HB.out i).1 (HB.out i).2
        unfold wrap64; omega
      have E6 := Aside0.mk (show ∀ x, sumP o (bef l0 l0.length) (i + 1) = x → wrap64 x = x from fun x hx => by
        have := sumP_le o (bef l0 l0.length) HB.out ho (i + 1) (by omega)
        rw [hx] at this
        unfold wrap64; omega)
      have hne : (i : Int) + 1 ≠ 0 := by omega
      have hne' : (((i : Int) + 1) == 0) = false := beq_eq_false_iff_ne.mpr hne
      clear hi h4 hlt ho
      by_cases hp : i % 2 = 0
      · have p2 : (i : Int) % 2 = 0 := by omega
        have p1 : Int.tmod (i : Int) 2 = 0 := (Int.tmod_eq_emod_of_nonneg (by omega)).trans p2
        have e7 : sumP o (bef l0 l0.length) (i + 1) = sumP o (bef l0 l0.length) i + bin o (i + 1) * bef l0 l0.length i := by rw [sumP, if_pos hp]
        have E7 := Aside0.mk e7
        have e8 : wrap64 (sumP o (bef l0 l0.length) i + bin o (i + 1) * bef l0 l0.length i) = sumP o (bef l0 l0.length) i + bin o (i + 1) * bef l0 l0.length i := E6.out _ e7
        clear e7 hp
        go_wp2_with fail
        refine (sound_before.calls A0 c0 l0 (i : Int) _ _ (Kd.C_drewN HR.out n) HC.out (before_f l0 i HL.out)).mono ?_
        rintro e w2 ⟨rfl, ⟨n2, rfl⟩⟩
        go_wp2_with fail
        go_roundg (o - i)
        case measure => have := HQ.out; have := HLT.out; omega
        case rel => exact ⟨i + 1, n + n2, _, _, by rw [e3], rfl, rfl, ⟨e8.trans E7.out.symm, rfl⟩, ⟨by have := HLT.out; omega⟩, ⟨by have := HLT.out; omega⟩, ⟨rfl⟩⟩
      · have p2 : (i : Int) % 2 = 1 := by omega
        have p1 : Int.tmod (i : Int) 2 = 1 := (Int.tmod_eq_emod_of_nonneg (by omega)).trans p2
        have e7 : sumP o (bef l0 l0.length) (i + 1) = sumP o (bef l0 l0.length) i - bin o (i + 1) * bef l0 l0.length i := by rw [sumP, if_neg hp]
        have E7 := Aside0.mk e7
        have e8 : wrap64 (sumP o (bef l0 l0.length) i - bin o (i + 1) * bef l0 l0.length i) = sumP o (bef l0 l0.length) i - bin o (i + 1) * bef l0 l0.length i := E6.out _ e7
        clear e7 hp
        go_wp2_with fail
        refine (sound_before.calls A0 c0 l0 (i : Int) _ _ (Kd.C_drewN HR.out n) HC.out (before_f l0 i HL.out)).mono ?_
        rintro e w2 ⟨rfl, ⟨n2, rfl⟩⟩
        go_wp2_with fail
        go_roundg (o - i)
        case measure => have := HQ.out; have := HLT.out; omega
        case rel => exact ⟨i + 1, n + n2, _, _, by rw [e3], rfl, rfl, ⟨e8.trans E7.out.symm, rfl⟩, ⟨by have := HLT.out; omega⟩, ⟨by have := HLT.out; omega⟩, ⟨rfl⟩⟩
section
set_option maxHeartbeats 8000000 in
set_option maxRecDepth 100000 in
theorem sound_before.still (A0 : Option Addr) (c0 : Nat) (l0 : List Int) (a1 : Int) (r : Int) (w : World) (hr0 : Kd.C (Kd.int .i64) w A0 l0.length l0) (hc0 : l0.length ≤ c0) (h : sound_before.f l0 a1 = some r) :
    Calls Try.prog 119 #[.slice A0 l0.length c0, .int .i64 a1] w fun e w' => e = .returned (.int .i64 r) ∧ w' = w := by
  have HR0 := Aside0.mk hr0
  have HC0 := Aside0.mk hc0
  clear hr0 hc0
  have H : (if a1 ≥ (l0.length : Int) then (some 0) else (if 0 ≤ (wrap64 ((wrap64 ((l0.length : Int) - 1)) - a1)) then (if (wrap64 ((wrap64 ((l0.length : Int) - 1)) - a1)) < (l0.length : Int) then (some (rd l0 (wrap64 ((wrap64 ((l0.length : Int) - 1)) - a1)))) else (none)) else (none))) = some r := h
  clear h
  by_cases c3 : a1 ≥ (l0.length : Int)
  · rw [if_pos c3] at H
    have c3b0 : decide ((l0.length : Int) ≤ a1) = true := decide_eq_true c3
    clear c3
    obtain rfl := Option.some.inj H
    go_enter Try.func119, Try.ntmps119
    go_wp2
    go_ret
    exact ⟨by first | rfl | (simp; done) | (simp [*]; done), rfl⟩
  · rw [if_neg c3] at H
    have c3b0 : decide ((l0.length : Int) ≤ a1) = false := decide_eq_false c3
    clear c3
    obtain ⟨ji4, hji4⟩ : ∃ j_ : Int, (wrap64 ((wrap64 ((l0.length : Int) - 1)) - a1)) = j_ := ⟨_, rfl⟩
    replace H : (if 0 ≤ (ji4) then (if (ji4) < (l0.length : Int) then (some (rd l0 (ji4))) else (none)) else (none)) = some r := by first | (rw [hji4] at H; exact H) | (simp only [hji4] at H ⊢; exact H)
    have hji4w : (IntKind.i64.wrap ((wrap64 ((l0.length : Int) - 1)) - a1)) = ji4 := (i64_w _).trans hji4
    by_cases c5 : 0 ≤ (ji4)
    · rw [if_pos c5] at H
      have c5b0 : decide (0 ≤ (ji4)) = true := decide_eq_true c5
      clear c5
      by_cases c6 : (ji4) < (l0.length : Int)
      · rw [if_pos c6] at H
        have c6b0 : decide ((ji4) < (l0.length : Int)) = true := decide_eq_true c6
        clear c6
        obtain rfl := Option.some.inj H
        have p102 : 0 ≤ ((ji4) : Int) := of_decide_eq_true (by first | (with_reducible assumption) | assumption)
        have q102 : (ji4) < (l0.length : Int) := of_decide_eq_true (by first | (with_reducible assumption) | assumption)
        obtain ⟨ad102, e102, hx102_0⟩ := Kd.at_int HR0.out (ji4) p102 q102
        cases e102
        replace p102 := eq_true p102
        replace q102 := eq_true q102
        go_enter Try.func119, Try.ntmps119
        go_wp2
        go_ret
        exact ⟨by first | rfl | (simp; done) | (simp only [← hji4] <;> (first | rfl | simp)) | (simp [*]; done), rfl⟩
      · rw [if_neg c6] at H
        exact absurd H (by simp)
    · rw [if_neg c5] at H
      exact absurd H (by simp)
set_option maxHeartbeats 8000000 in
set_option maxRecDepth 100000 in
theorem sound_sign.still (a0 : Int) (r : Int) (w : World) (h : sound_sign.f a0 = some r) :
    Calls Try.prog 120 #[.int .i64 a0] w fun e w' => e = .returned (.int .i64 r) ∧ w' = w := by
  have H : (if a0 < 0 then (some (-1)) else (if a0 > 0 then (some 1) else (some 0))) = some r := h
  clear h
  by_cases c2 : a0 < 0
  · rw [if_pos c2] at H
    have c2b0 : decide (a0 < 0) = true := decide_eq_true c2
    clear c2
    obtain rfl := Option.some.inj H
    go_enter Try.func120, Try.ntmps120
    go_wp2
    go_ret
    exact ⟨by first | rfl | (simp; done) | (simp [*]; done), rfl⟩
  · rw [if_neg c2] at H
    have c2b0 : decide (a0 < 0) = false := decide_eq_false c2
    clear c2
    by_cases c3 : a0 > 0
    · rw [if_pos c3] at H
      have c3b0 : decide (0 < a0) = true := decide_eq_true c3
      clear c3
      obtain rfl := Option.some.inj H
      go_enter Try.func120, Try.ntmps120
      go_wp2
      go_ret
      exact ⟨by first | rfl | (simp; done) | (simp [*]; done), rfl⟩
    · rw [if_neg c3] at H
      have c3b0 : decide (0 < a0) = false := decide_eq_false c3
      clear c3
      obtain rfl := Option.some.inj H
      go_enter Try.func120, Try.ntmps120
      go_wp2
      go_ret
      exact ⟨by first | rfl | (simp; done) | (simp [*]; done), rfl⟩
end

def sgn (a : Int) : Int := if a < 0 then -1 else if a > 0 then 1 else 0
theorem sign_f (a : Int) : sound_sign.f a = some (sgn a) := by
  unfold sound_sign.f sgn
  split
  · rfl
  · split <;> rfl
theorem sgn_le (a : Int) : sgn a = -1 ∨ sgn a = 0 ∨ sgn a = 1 := by
  unfold sgn
  split
  · exact .inl rfl
  · split
    · exact .inr (.inr rfl)
    · exact .inr (.inl rfl)
theorem sgn_mul (a b : Int) : -1 ≤ sgn a * sgn b ∧ sgn a * sgn b ≤ 1 := by
  rcases sgn_le a with h | h | h <;> rcases sgn_le b with k | k | k <;> rw [h, k] <;> decide
def learnF (s : Int) (b f : Nat → Int) (i : Nat) : Nat → Int := fun j => if j < i then wrap64 (f j + sgn s * sgn (b j) * 4) else f j
theorem learnF_succ (s : Int) (b f : Nat → Int) (i j : Nat) : learnF s b f (i + 1) j = if j = i then wrap64 (f i + sgn s * sgn (b i) * 4) else learnF s b f i j := by
  unfold learnF
  by_cases h : j = i
  · subst h; simp
  · rw [if_neg h]
    by_cases k : j < i
    · rw [if_pos (by omega), if_pos k]
    · rw [if_neg (by omega), if_neg k]
theorem indexAt_w (g i : Nat) (h : i < 4) (w : World) : (Instr.indexAt 140 (.pointer (some ⟨g, 1, none⟩)) (.int .i64 (i : Int))).run Try.prog w = .ok (.pointer (some ⟨g, 1 + i, none⟩)) w := by
  have x0 : (Instr.indexAt 140 (.pointer (some ⟨g, 1, none⟩)) (.int .i64 ((0 : Nat) : Int))).run Try.prog w = .ok (.pointer (some ⟨g, 1 + 0, none⟩)) w := by kernel_rfl
  have x1 : (Instr.indexAt 140 (.pointer (some ⟨g, 1, none⟩)) (.int .i64 ((1 : Nat) : Int))).run Try.prog w = .ok (.pointer (some ⟨g, 1 + 1, none⟩)) w := by kernel_rfl
  have x2 : (Instr.indexAt 140 (.pointer (some ⟨g, 1, none⟩)) (.int .i64 ((2 : Nat) : Int))).run Try.prog w = .ok (.pointer (some ⟨g, 1 + 2, none⟩)) w := by kernel_rfl
  have x3 : (Instr.indexAt 140 (.pointer (some ⟨g, 1, none⟩)) (.int .i64 ((3 : Nat) : Int))).run Try.prog w = .ok (.pointer (some ⟨g, 1 + 3, none⟩)) w := by kernel_rfl
  have c : i = 0 ∨ i = 1 ∨ i = 2 ∨ i = 3 := by omega
  rcases c with rfl | rfl | rfl | rfl
  · exact x0
  · exact x1
  · exact x2
  · exact x3
theorem IsP.cell {W : World} {g : Nat} {o : Int} {f : Nat → Int} (h : IsP W g o f) (i : Nat) (hi : i < 4) : W.cell? ⟨g, 1 + i, none⟩ = some (.int .i64 (f i)) := by
  have c : i = 0 ∨ i = 1 ∨ i = 2 ∨ i = 3 := by omega
  rcases c with rfl | rfl | rfl | rfl
  · exact (blk_cell h.hg 1).trans rfl
  · exact (blk_cell h.hg 2).trans rfl
  · exact (blk_cell h.hg 3).trans rfl
  · exact (blk_cell h.hg 4).trans rfl
theorem IsP.set {W : World} {g : Nat} {o : Int} {f f' : Nat → Int} (h : IsP W g o f) (i : Nat) (hi : i < 4) (v : Int) (hf : ∀ j, f' j = if j = i then v else f j) : IsP (W.setCell ⟨g, 1 + i, none⟩ (.int .i64 v)) g o f' := by
  have k := blk_set h.hg (1 + i) (.int .i64 v)
  have c : i = 0 ∨ i = 1 ∨ i = 2 ∨ i = 3 := by omega
  constructor
  rcases c with rfl | rfl | rfl | rfl <;> simpa [hf] using k
theorem Moved_set {W : World} (g i : Nat) (v : Value) : Moved W (W.setCell ⟨g, i, none⟩ v) (fun k => k = g) (fun k => k = g) :=
  ⟨rfl, rfl, rfl, by simp [World.setCell], fun k _ hn => Below.heap_setCell _ ⟨g, i, none⟩ _ k hn, fun k hk => .inl hk⟩
set_option maxRecDepth 100000 in
set_option maxHeartbeats 1000000 in
theorem learn_calls {w : World} {g : Nat} {o : Int} {f : Nat → Int} (h : IsP w g o f) (A0 : Option Addr) (c0 : Nat) (l0 : List Int) (hr0 : ∀ w', Moved w w' (fun k => k = g) (fun k => k = g) → Kd.C (Kd.int .i64) w' A0 l0.length l0) (hc0 : l0.length ≤ c0) (hl : l0.length ≤ 4611686018427387904) (s : Int) :
    Calls Try.prog 66 #[.pointer (some ⟨g, 0, none⟩), .slice A0 l0.length c0, .int .i64 s] w fun e w' => e = .returned (.tuple #[]) ∧ IsP w' g o (learnF s (bef l0 l0.length) f 4) ∧ Moved w w' (fun k => k = g) (fun k => k = g) := by
  have H := Aside0.mk h
  have HR := Aside0.mk hr0
  have HC := Aside0.mk hc0
  have HL := Aside0.mk hl
  clear h hr0 hc0 hl
  go_enter Try.func66, Try.ntmps66
  go_wp2_with fail
  go_loopg [7] 5 (fun kq v7 w' => ∃ (i : Nat), v7 = .int .i64 (i : Int) ∧ Aside0 (kq = 4 - i + 1) ∧ Aside0 (i ≤ 4) ∧ Aside0 (IsP w' g o (learnF s (bef l0 l0.length) f i)) ∧ Aside0 (Moved w w' (fun k => k = g) (fun k => k = g)))
  case atStart => exact ⟨0, rfl, ⟨rfl⟩, ⟨by omega⟩, ⟨⟨H.out.hg⟩⟩, ⟨Moved.refl _ _⟩⟩
  case round =>
    obtain ⟨i, rfl, HQ, HI, HP, HM⟩ := hrel
    have hi := HI.out
    by_cases h4 : i = 4
    · subst h4
      clear hi HI
      go_wp2_with fail
      go_end0
      exact ⟨rfl, HP.out, HM.out⟩
    · have hlt : i < 4 := by omega
      have HLT := Aside0.mk hlt
      have xi := indexAt_w g i hlt
      have ci := HP.out.cell i hlt
      have fi := blk_frozen HP.out.hg (1 + i)
      have hi1 : decide ((i : Int) < 4) = true := decide_eq_true (by omega)
      have hi2 : decide (i < 4) = true := decide_eq_true hlt
      have e8 : wrap64 ((i : Int) + 1) = ((i + 1 : Nat) : Int) := by unfold wrap64; omega
      have m1 : wrap64 (sgn s * sgn (bef l0 l0.length i)) = sgn s * sgn (bef l0 l0.length i) := by have := sgn_mul s (bef l0 l0.length i); unfold wrap64; omega
      have m2 : wrap64 (sgn s * sgn (bef l0 l0.length i) * 4) = sgn s * sgn (bef l0 l0.length i) * 4 := by have := sgn_mul s (bef l0 l0.length i); unfold wrap64; omega
      clear hi h4 hlt
      go_wp2_with fail
      go_still_tail 18, (by kernel_rfl)
      still_call (sound_sign.still s (sgn s) _ (sign_f s))
      repeat still_step
      still_call (sound_before.still A0 c0 l0 (i : Int) (bef l0 l0.length i) _ (HR.out _ (HM.out.drewN 1)) HC.out (before_f l0 i HL.out))
      still_call (sound_sign.still (bef l0 l0.length i) (sgn (bef l0 l0.length i)) _ (sign_f _))
      repeat still_step
      refine wpStill_nil ?_
      change wpList _ _ _ _ _ wr.drew
      go_wp2_with fail
      go_roundg (4 - i)
      case measure => have := HQ.out; have := HLT.out; omega
      case rel =>
        refine ⟨i + 1, by rw [e8], ⟨by have := HLT.out; omega⟩, ⟨by have := HLT.out; omega⟩, ⟨?_⟩, ⟨?_⟩⟩
        · refine ⟨(HP.out.set i HLT.out _ (fun j => ?_)).hg⟩
          rw [learnF_succ]
          have e : learnF s (bef l0 l0.length) f i i = f i := by unfold learnF; rw [if_neg (by omega)]
          rw [e]
        · exact HM.out.trans ((Moved_set g (1 + i) _).drewN 1)
def predF (o : Nat) (f b : Nat → Int) : Int := if o = 5 then sumA f b 4 / 2 ^ 10 else sumP o b o
def warmN (o n : Nat) : Nat := if o = 5 then 0 else min o n
def f0 : Nat → Int := fun j => if j = 0 then 1024 else 0
def leftS (l : List Int) (o n : Nat) : Nat → (Nat → Int) × List Int
  | 0 => (f0, [])
  | k + 1 => (learnF (wrap64 (rd l ((n + k : Nat) : Int) - predF o (leftS l o n k).1 (bef l (n + k)))) (bef l (n + k)) (leftS l o n k).1 4, (leftS l o n k).2 ++ [wrap64 (rd l ((n + k : Nat) : Int) - predF o (leftS l o n k).1 (bef l (n + k)))])
theorem leftS_length (l : List Int) (o n k : Nat) : (leftS l o n k).2.length = k := by
  induction k with
  | zero => rfl
  | succ k ih => simp [leftS, ih]
theorem bef_take {l : List Int} {t : Nat} (ht : t ≤ l.length) : bef (l.take t) (l.take t).length = bef l t := by
  funext k
  have e : (l.take t).length = t := by simp; omega
  unfold bef
  rw [e]
  by_cases h : k < t
  · rw [if_pos h, if_pos h]
    simp only [rd, Int.toNat_natCast, List.getD_eq_getElem?_getD]
    rw [List.getElem?_take_of_lt (by omega)]
  · rw [if_neg h, if_neg h]
theorem predict_calls {w : World} {g o : Nat} {f : Nat → Int} (ho : o ≤ 5) (h : IsP w g (o : Int) f) (A0 : Option Addr) (c0 : Nat) (l0 : List Int) (hr0 : Kd.C (Kd.int .i64) w A0 l0.length l0) (hc0 : l0.length ≤ c0) (hl : l0.length ≤ 4611686018427387904) (hb : ∀ x ∈ l0, -67108864 ≤ x ∧ x ≤ 67108864) :
    Calls Try.prog 65 #[.pointer (some ⟨g, 0, none⟩), .slice A0 l0.length c0] w fun e w' => e = .returned (.int .i64 (predF o f (bef l0 l0.length))) ∧ ∃ m, w' = w.drewN m := by
  unfold predF
  by_cases h5 : o = 5
  · subst h5
    rw [if_pos rfl]
    exact predict5_calls h A0 c0 l0 hr0 hc0 hl
  · rw [if_neg h5]
    exact predictO_calls (by omega) h A0 c0 l0 hr0 hc0 hl hb
theorem all_in {l : List Int} (h : l.any (out 67108864) = false) : ∀ x ∈ l, -67108864 ≤ x ∧ x ≤ 67108864 := by
  intro x hx
  have := List.any_eq_false.mp h x hx
  simp [out] at this
  omega
theorem IsP.of {w0 W : World} {g : Nat} {o : Int} (h : IsS142 w0 W g o 1024 0 0 0) : IsP W g o f0 := ⟨h.1⟩
theorem IsP.same {W W' : World} {g : Nat} {o : Int} {f : Nat → Int} (h : IsP W g o f) (e : W'.heap[g]? = W.heap[g]?) : IsP W' g o f := ⟨e.trans h.hg⟩
theorem own_moved {W W' : World} {base e g n : Nat} {v : Value} {xs : List Value} (h : W.ownsRow base e 1 v n xs) (hne : some g ≠ v.ownBlock) (hm : Moved W W' (fun k => k = g) (fun k => k = g)) : W'.ownsRow base e 1 v n xs := by
  obtain ⟨h1, h2⟩ := h
  refine ⟨h1, ?_⟩
  rcases h2 with h2 | ⟨r, cap, cur, rfl, hr, hh, rest⟩
  · exact .inl h2
  · exact .inr ⟨r, cap, cur, rfl, hr, (hm.block r (blk_lt hh) (fun e => hne (by rw [← e]; rfl))).trans hh, rest⟩
set_option maxRecDepth 100000 in
set_option maxHeartbeats 2000000 in
theorem left_ok {w : World} (o : Nat) (ho : o ≤ 5) (A0 : Option Addr) (c0 : Nat) (l0 : List Int) (hr0 : Kd.C (Kd.int .i64) w A0 l0.length l0) (hc0 : l0.length ≤ c0) (hb : l0.any (out 67108864) = false) (hl : l0.length ≤ 16384) :
    Calls Try.prog 20 #[.slice A0 l0.length c0, .int .i64 (o : Int)] w fun e w' => ∃ v0 v1, e = .returned (.tuple #[v0, v1, .int .i64 0]) ∧ Kd.R (Kd.int .i64) 3 w' w.heap.size (fun _ => True) v0 (l0.take (warmN o l0.length)) ∧ Kd.R (Kd.int .i64) 3 w' w.heap.size (fun _ => True) v1 (leftS l0 o (warmN o l0.length) (l0.length - warmN o l0.length)).2 ∧ Below w.heap.size w w' ∧ NeRow v0 v1 := by
  have info3 : (Try.prog.info? 3).map (fun i => (i.zero, i.size, i.bytes)) = some (some (.int .i64 0), 1, 8) := by kernel_rfl
  have HR := Aside0.mk hr0
  have HC := Aside0.mk hc0
  have HL := Aside0.mk hl
  have HO := Aside0.mk ho
  have HB := Aside0.mk hb
  have HN : Aside0 (warmN o l0.length ≤ l0.length) := ⟨by unfold warmN; split <;> omega⟩
  have HWF : Aside0 (sound_predictor_warm.f (o : Int) 1024 0 0 0 (l0.length : Int) = some (((warmN o l0.length : Nat) : Int), (o : Int), 1024, 0, 0, 0)) := ⟨by
    unfold sound_predictor_warm.f warmN
    by_cases h : o = 5
    · rw [if_pos (by omega), if_pos h]; rfl
    · rw [if_neg (by omega), if_neg h]
      congr 2
      unfold mn
      split <;> omega⟩
  have hlb : decide (16384 < (l0.length : Int)) = false := decide_eq_false (by omega)
  have hlb' : decide (16384 < l0.length) = false := decide_eq_false (by omega)
  have hi0 : (decide ((0 : Int) ≤ (o : Int)) && decide ((o : Int) ≤ 5)) = true := by simp; omega
  have HI0 := Aside0.mk hi0
  clear hr0 hc0 hl ho hb hi0
  generalize hn : warmN o l0.length = n at HN HWF ⊢
  clear hn
  go_enter Try.func20, Try.ntmps20
  go_wp2_with fail
  refine (sound_within.calls (o : Int) 0 5 true _ (by rw [within_f, HI0.out])).mono ?_
  rintro e w1 ⟨rfl, ⟨n1, rfl⟩⟩
  go_wp2_with fail
  refine (beyond_calls (w := w.drewN n1) (most := 67108864) (by omega) (by omega) A0 c0 l0 (Kd.C_drewN HR.out n1)).mono ?_
  rintro e w2 ⟨rfl, hbel⟩
  rw [HB.out]
  have B2 : Aside0 (Below w.heap.size w w2) := ⟨below_step (pw_below_drewN (Below.refl _ _) n1) hbel⟩
  clear hbel
  go_wp2_with fail
  refine (sound_newPredictor.calls (o : Int) (o : Int) 1024 0 0 0 w w2 B2.out rfl).mono ?_
  rintro e w3 ⟨g, rfl, hs, hb3, -⟩
  have S3 := Aside0.mk hs
  have B3 := Aside0.mk hb3
  clear hs hb3
  go_wp2_with fail
  refine (sound_predictor_warm.calls g (o : Int) 1024 0 0 0 (l0.length : Int) (n : Int) (o : Int) 1024 0 0 0 w w3 S3.out B3.out HWF.out).mono ?_
  rintro e w4 ⟨rfl, hs, hb4, -⟩
  have P4 : Aside0 (IsP w4 g (o : Int) f0) := ⟨IsP.of hs⟩
  have G4 : Aside0 (w.heap.size ≤ g) := ⟨hs.2⟩
  have B4 := Aside0.mk hb4
  clear hs hb4 S3 B3
  go_wp2_with fail
  go_loopg [5, 9] (l0.length - n + 1) (fun kq v5 v9 w' => ∃ (k : Nat), v9 = .int .i64 ((n + k : Nat) : Int) ∧ Aside0 (kq = l0.length - n - k + 1) ∧ Aside0 (n + k ≤ l0.length) ∧ Aside0 (IsP w' g (o : Int) (leftS l0 o n k).1) ∧ Aside0 (w'.ownsRow w.heap.size 3 1 v5 (leftS l0 o n k).2.length (nums .i64 (leftS l0 o n k).2)) ∧ Aside0 (Below w.heap.size w w'))
  case atStart => exact ⟨0, rfl, ⟨rfl⟩, ⟨HN.out⟩, ⟨P4.out⟩, ⟨own_nil _ _ _ _⟩, B4⟩
  case round =>
    obtain ⟨k, rfl, HQ, HK, HP, HO5, HBW⟩ := hrel
    obtain ⟨t, ht⟩ : ∃ t, n + k = t := ⟨_, rfl⟩
    rw [ht]
    have HT := Aside0.mk ht
    obtain ⟨i0, hi, hz0, hsz, _⟩ := info_parts info3
    by_cases hk : k = l0.length - n
    · have hx1 : decide ((t : Int) < (l0.length : Int)) = false := decide_eq_false (by have := HN.out; omega)
      have hx2 : decide (t < l0.length) = false := decide_eq_false (by have := HN.out; omega)
      have hcut := cut_to (P := Try.prog) 22 3 .i64 Try.underlying22 hi A0 l0.length c0 (n : Int) (by omega) (by have := HN.out; omega) HC.out
      have HRT0 := Kd.C_take (m := n) HR.out HN.out
      obtain ⟨lt, hlt⟩ : ∃ lt, l0.take n = lt := ⟨_, rfl⟩
      have ey : (n : Int).toNat = lt.length := by have := HN.out; rw [← hlt, List.length_take]; omega
      rw [ey] at hcut
      rw [hlt] at HRT0
      have HLT0 := Aside0.mk hlt
      have HRT := Aside0.mk HRT0
      have HCT : Aside0 (lt.length ≤ c0) := ⟨by have := HC.out; have := HN.out; rw [← hlt, List.length_take]; omega⟩
      have HCL : Aside0 (slices_Clone_int_int.f lt = some lt) := ⟨by unfold slices_Clone_int_int.f; rw [if_pos (by have := HL.out; rw [← hlt, List.length_take]; omega)]⟩
      clear hlt HRT0
      have HKE := Aside0.mk hk
      clear hk hi hz0 hsz ht ey
      go_wp2_with fail
      refine (slices_Clone_int_int.calls A0 c0 lt lt wr (Kd.C_below HRT.out HBW.out) HCT.out HCL.out).mono ?_
      rintro e w5 ⟨v0, rfl, hr5, hb5⟩
      have R5 := Aside0.mk hr5
      have B5 := Aside0.mk hb5
      clear hr5 hb5
      go_wp2_with fail
      go_ret3
      refine ⟨_, _, rfl, ?_, ?_, below_step HBW.out B5.out, ne_below R5.out.2.choose_spec.1 HO5.out⟩
      · rw [HLT0.out]
        exact Kd.R_lower R5.out HBW.out.size
      · rw [← HKE.out]
        exact Kd.R_below (Kd.R_of_own (h1 := fun _ => rfl) (by simpa [encs, nums] using HO5.out) (fun _ _ => trivial)) B5.out
    · have hx1 : decide ((t : Int) < (l0.length : Int)) = true := decide_eq_true (by have := HN.out; have := HK.out; omega)
      have hx2 : decide (t < l0.length) = true := decide_eq_true (by have := HN.out; have := HK.out; omega)
      have hx3 : ((t : Int) < (l0.length : Int)) = True := eq_true (by have := HN.out; have := HK.out; omega)
      have hx4 : (t < l0.length) = True := eq_true (by have := HN.out; have := HK.out; omega)
      have HTL : Aside0 (t < l0.length) := ⟨by have := HN.out; have := HK.out; omega⟩
      have hrr := Kd.C_below HR.out HBW.out
      obtain ⟨ad, e0, x0⟩ := Kd.at_int hrr (t : Int) (by omega) (by have := HTL.out; omega)
      cases e0
      rw [Int.toNat_natCast] at x0
      have hcut := cut_to (P := Try.prog) 22 3 .i64 Try.underlying22 hi (some ad) l0.length c0 (t : Int) (by omega) (by have := HTL.out; omega) HC.out
      have HRT0 := Kd.C_take (m := t) HR.out (by have := HTL.out; omega)
      obtain ⟨lt, hlt⟩ : ∃ lt, l0.take t = lt := ⟨_, rfl⟩
      have ey : (t : Int).toNat = lt.length := by have := HTL.out; rw [← hlt, List.length_take]; omega
      rw [ey] at hcut
      rw [hlt] at HRT0
      have HLT0 := Aside0.mk hlt
      have HRT := Aside0.mk HRT0
      have HCT : Aside0 (lt.length ≤ c0) := ⟨by have := HC.out; rw [← hlt, List.length_take]; omega⟩
      have HLT : Aside0 (lt.length ≤ 4611686018427387904) := ⟨by have := HL.out; rw [← hlt, List.length_take]; omega⟩
      have HBE : Aside0 (bef lt lt.length = bef l0 t) := ⟨by rw [← hlt]; exact bef_take (by have := HTL.out; omega)⟩
      clear hlt HRT0
      have e8 : wrap64 ((t : Int) + 1) = ((t + 1 : Nat) : Int) := by have := HL.out; have := HTL.out; unfold wrap64; omega
      obtain ⟨pv, hpv⟩ : ∃ pv, predF o (leftS l0 o n k).1 (bef l0 t) = pv := ⟨_, rfl⟩
      have HPV := Aside0.mk hpv
      have HPR : Aside0 (∀ m, Calls Try.prog 65 #[.pointer (some ⟨g, 0, none⟩), .slice (some ad) lt.length c0] (wr.drewN m) fun e w' => e = .returned (.int .i64 pv) ∧ ∃ m', w' = (wr.drewN m).drewN m') := ⟨fun m => by
        rw [← HPV.out, ← HBE.out]
        exact predict_calls (w := wr.drewN m) HO.out (HP.out.same rfl) (some ad) c0 lt (Kd.C_drewN (Kd.C_below HRT.out HBW.out) m) HCT.out HLT.out (fun x hx => all_in HB.out x (List.mem_of_mem_take (by rw [HLT0.out]; exact hx)))⟩
      clear hk hi hz0 hsz ht ey hrr hpv
      go_wp2_with fail
      go_quiet (first | (go_at_call 65; exact Calls.quiet_of (HPR.out _)))
      have HRL : Aside0 (∀ w', Moved (wr.drewN nq) w' (fun k => k = g) (fun k => k = g) → Kd.C (Kd.int .i64) w' (some ad) lt.length lt) := ⟨fun w' hm =>
        Kd.C_below HRT.out ((pw_below_drewN HBW.out nq).trans (hm.below (base := w.heap.size) (fun k hk => by have := G4.out; omega) HBW.out.size))⟩
      go_wp2_with fail
      refine (learn_calls (w := wr.drewN nq) (HP.out.same rfl) (some ad) c0 lt HRL.out HCT.out HLT.out (wrap64 (rd l0 (t : Int) - pv))).mono ?_
      rintro e w5 ⟨rfl, hp, hm⟩
      have N5 := own_ne (pw_own_drewN HO5.out nq) (HP.out.same (W' := wr.drewN nq) rfl).hg (by decide)
      have O5 := Aside0.mk (own_moved (pw_own_drewN HO5.out nq) N5 hm)
      have B5 : Aside0 (Below w.heap.size w w5) := ⟨(pw_below_drewN HBW.out nq).trans (hm.below (base := w.heap.size) (fun k hk => by have := G4.out; omega) HBW.out.size)⟩
      have P5 := Aside0.mk hp
      have HNE := Aside0.mk N5
      have HLS := Aside0.mk (leftS_length l0 o n k)
      clear hp hm N5
      go_wp2_with (at_builtin; refine print_append_num (w0 := w) w.heap.size rfl (.tmp 50) (.tmp 52) 22 3 .i64 8 rfl Try.underlying22 info3 (by decide) _ (leftS l0 o n k).2 (wrap64 (rd l0 (t : Int) - pv)) rfl rfl O5.out B5.out B5.out.size (by have h1 := HLS.out; have h2 := HL.out; have h3 := HTL.out; have h4 := HT.out; omega) ?_; intro v1 w1 hown hB hG hat; have S1 := Aside0.mk hown; have S2 := Aside0.mk hB; have S3 := Aside0.mk (blk_grown P5.out.hg hG HNE.out); clear hown hB hG hat)
      go_roundg (l0.length - n - (k + 1) + 1)
      case measure => have := HQ.out; have := HTL.out; have := HT.out; omega
      case rel =>
        have e4 : (leftS l0 o n (k + 1)) = (learnF (wrap64 (rd l0 (t : Int) - pv)) (bef lt lt.length) (leftS l0 o n k).1 4, (leftS l0 o n k).2 ++ [wrap64 (rd l0 (t : Int) - pv)]) := by
          rw [leftS, HT.out, HPV.out, HBE.out]
        refine ⟨k + 1, by rw [e8, ← HT.out]; rfl, ⟨rfl⟩, ⟨by have := HTL.out; have := HT.out; omega⟩, ⟨by rw [e4]; exact ⟨S3.out⟩⟩, ⟨by rw [e4]; exact S1.out⟩, ⟨S2.out⟩⟩
def leftF (l : List Int) (o : Int) : List Int × List Int × Int :=
  if o < 0 ∨ 5 < o ∨ l.any (out 67108864) = true then ([], [], 1) else if 16384 < l.length then ([], [], 2)
  else (l.take (warmN o.toNat l.length), (leftS l o.toNat (warmN o.toNat l.length) (l.length - warmN o.toNat l.length)).2, 0)
set_option maxRecDepth 100000 in
set_option maxHeartbeats 2000000 in
theorem left_calls {w : World} (o : Int) (A0 : Option Addr) (c0 : Nat) (l0 : List Int) (hr0 : Kd.C (Kd.int .i64) w A0 l0.length l0) (hc0 : l0.length ≤ c0) :
    Calls Try.prog 20 #[.slice A0 l0.length c0, .int .i64 o] w fun e w' => ∃ v0 v1, e = .returned (.tuple #[v0, v1, .int .i64 (leftF l0 o).2.2]) ∧ Kd.R (Kd.int .i64) 3 w' w.heap.size (fun _ => True) v0 (leftF l0 o).1 ∧ Kd.R (Kd.int .i64) 3 w' w.heap.size (fun _ => True) v1 (leftF l0 o).2.1 ∧ Below w.heap.size w w' ∧ NeRow v0 v1 := by
  unfold leftF
  have HR := Aside0.mk hr0
  by_cases ho : 0 ≤ o ∧ o ≤ 5
  · by_cases hb : l0.any (out 67108864) = true
    · rw [if_pos (.inr (.inr hb))]
      have HB := Aside0.mk hb
      have HI0 : Aside0 ((decide ((0 : Int) ≤ o) && decide (o ≤ 5)) = true) := ⟨by simp; omega⟩
      clear hb ho hr0 hc0
      go_enter Try.func20, Try.ntmps20
      go_wp2_with fail
      refine (sound_within.calls o 0 5 true _ (by rw [within_f, HI0.out])).mono ?_
      rintro e w1 ⟨rfl, ⟨n1, rfl⟩⟩
      go_wp2_with fail
      refine (beyond_calls (w := w.drewN n1) (most := 67108864) (by omega) (by omega) A0 c0 l0 (Kd.C_drewN HR.out n1)).mono ?_
      rintro e w2 ⟨rfl, hbel⟩
      rw [HB.out]
      have B2 : Aside0 (Below w.heap.size w w2) := ⟨below_step (pw_below_drewN (Below.refl _ _) n1) hbel⟩
      clear hbel
      go_wp2_with fail
      go_ret3
      exact ⟨_, _, rfl, Kd.R_nil _ _ _ _ _, Kd.R_nil _ _ _ _ _, B2.out, ne_nil _⟩
    · by_cases hl : 16384 < l0.length
      · rw [if_neg (by rintro (h | h | h) <;> first | omega | exact hb h), if_pos hl]
        have HB : Aside0 (l0.any (out 67108864) = false) := ⟨by simpa using hb⟩
        have HI0 : Aside0 ((decide ((0 : Int) ≤ o) && decide (o ≤ 5)) = true) := ⟨by simp; omega⟩
        have hlb : decide (16384 < (l0.length : Int)) = true := decide_eq_true (by omega)
        have hlb' : decide (16384 < l0.length) = true := decide_eq_true (by omega)
        clear hb ho hr0 hc0 hl
        go_enter Try.func20, Try.ntmps20
        go_wp2_with fail
        refine (sound_within.calls o 0 5 true _ (by rw [within_f, HI0.out])).mono ?_
        rintro e w1 ⟨rfl, ⟨n1, rfl⟩⟩
        go_wp2_with fail
        refine (beyond_calls (w := w.drewN n1) (most := 67108864) (by omega) (by omega) A0 c0 l0 (Kd.C_drewN HR.out n1)).mono ?_
        rintro e w2 ⟨rfl, hbel⟩
        rw [HB.out]
        have B2 : Aside0 (Below w.heap.size w w2) := ⟨below_step (pw_below_drewN (Below.refl _ _) n1) hbel⟩
        clear hbel
        go_wp2_with fail
        go_ret3
        exact ⟨_, _, rfl, Kd.R_nil _ _ _ _ _, Kd.R_nil _ _ _ _ _, B2.out, ne_nil _⟩
      · rw [if_neg (by rintro (h | h | h) <;> first | omega | exact hb h), if_neg hl]
        have h := left_ok (w := w) o.toNat (by omega) A0 c0 l0 hr0 hc0 (by simpa using hb) (by omega)
        rw [Int.toNat_of_nonneg ho.1] at h
        exact h
  · rw [if_pos (by omega)]
    have HI0 : Aside0 ((decide ((0 : Int) ≤ o) && decide (o ≤ 5)) = false) := ⟨by simp; omega⟩
    clear ho hr0 hc0
    go_enter Try.func20, Try.ntmps20
    go_wp2_with fail
    refine (sound_within.calls o 0 5 false _ (by rw [within_f, HI0.out])).mono ?_
    rintro e w1 ⟨rfl, ⟨n1, rfl⟩⟩
    go_wp2_with fail
    go_ret3
    exact ⟨_, _, rfl, Kd.R_nil _ _ _ _ _, Kd.R_nil _ _ _ _ _, pw_below_drewN (Below.refl _ _) n1, ne_nil _⟩
theorem R_apart {e : Nat} {w : World} {b : Nat} {ok : Nat → Prop} {v u : Value} {l : List Int} (h : Kd.R (Kd.int .i64) e w b ok v l) (hn : NeRow v u) : Kd.R (Kd.int .i64) e w b (fun k_ => some k_ ≠ (u : Value).ownBlock) v l :=
  Kd.R_mono (Kd.R_tight rfl h) (fun k hk => fun h2 => hn k hk.symm h2.symm)
def sound_Left.f (l0 : List Int) (a1 : Int) : Option (List Int × List Int × Int) := some (leftF l0 a1)
theorem sound_Left.calls (A0 : Option Addr) (c0 : Nat) (l0 : List Int) (a1 : Int) (r1 : List Int) (r2 : List Int) (r3 : Int) (w : World) (hr0 : Kd.C (Kd.int .i64) w A0 l0.length l0) (hc0 : l0.length ≤ c0) (h : sound_Left.f l0 a1 = some (r1, r2, r3)) :
    Calls Try.prog 20 #[.slice A0 l0.length c0, .int .i64 a1] w fun e w' => ∃ v0_ v1_ : Value, e = .returned (.tuple #[v0_, v1_, .int .i64 r3]) ∧ Kd.R (Kd.int .i64) 3 w' w.heap.size (fun k_ => some k_ ≠ (v1_ : Value).ownBlock) v0_ r1 ∧ Kd.R (Kd.int .i64) 3 w' w.heap.size (fun k_ => some k_ ≠ (v0_ : Value).ownBlock) v1_ r2 ∧ Below w.heap.size w w' := by
  have e := Option.some.inj h
  refine (left_calls (w := w) a1 A0 c0 l0 hr0 hc0).mono ?_
  rw [e]
  rintro e w' ⟨v0, v1, rfl, h0, h1, hb, hn⟩
  exact ⟨v0, v1, rfl, R_apart h0 hn, R_apart h1 (ne_symm hn), hb⟩

end Go.Proofs.Ytdiemkeflmflaaa.QSound
