/- A lemma file: the program's predictor. No condition. -/
import Derived.Test.YtdiemkeflmflaaaSA
import Derived.Test.YtdiemkeflmflaaaQSoundx3
import Derived.Test.YtdiemkeflmflaaaQSoundx3
import Derived.Test.YtdiemkeflmflaaaQSoundx2
import Derived.Deep.QuietTactic
import Derived.BigQuiet
import Derived.StillTailTactics
namespace Go.Proofs.Ytdiemkeflmflaaa.QSound
open Go.RowKit Go.Proofs.YtdiemkeflmflaaaW.PrintWords Go.Proofs.YtdiemkeflmflaaaW.PrintLast Go.Proofs.YtdiemkeflmflaaaW.PrintMore Go.Proofs.YtdiemkeflmflaaaV
set_option linter.unusedVariables false
set_option linter.unusedSimpArgs false
/-- The number k before the last one of the first t of a list; 0 if there is none. -/
def bef (l : List Int) (t k : Nat) : Int := if k < t then rd l ((t - 1 - k : Nat) : Int) else 0
theorem before_f (l : List Int) (k : Nat) (hl : l.length ≤ 4611686018427387904) : sound_before.f l (k : Int) = some (bef l l.length k) := by
  unfold sound_before.f bef
  by_cases h : k < l.length
  · have e1 : wrap64 (wrap64 ((l.length : Int) - 1) - (k : Int)) = ((l.length - 1 - k : Nat) : Int) := by unfold wrap64; omega
    rw [if_neg (by omega), if_pos h, e1, if_pos (by omega), if_pos (by omega)]
  · rw [if_pos (by omega), if_neg h]
def bin (o : Nat) : Nat → Int
  | 0 => 1
  | i + 1 => Int.tdiv (bin o i * ((o : Int) - (i : Int))) ((i : Int) + 1)
def sumP (o : Nat) (b : Nat → Int) : Nat → Int
  | 0 => 0
  | i + 1 => if i % 2 = 0 then sumP o b i + bin o (i + 1) * b i else sumP o b i - bin o (i + 1) * b i
def sumA (w : Nat → Int) (b : Nat → Int) : Nat → Int
  | 0 => 0
  | i + 1 => wrap64 (sumA w b i + wrap64 (w i * b i))
structure IsP (W : World) (g : Nat) (o : Int) (f : Nat → Int) : Prop where
  hg : W.heap[g]? = some (.cells #[.int .i64 o, .int .i64 (f 0), .int .i64 (f 1), .int .i64 (f 2), .int .i64 (f 3)] 142 (0, 0))
theorem index_w (f : Nat → Int) (i : Nat) (h : i < 4) (w : World) : (Instr.index 140 (.agg #[.int .i64 (f 0), .int .i64 (f 1), .int .i64 (f 2), .int .i64 (f 3)]) (.int .i64 (i : Int))).run Try.prog w = .ok (.int .i64 (f i)) w := by
  have x0 : (Instr.index 140 (.agg #[.int .i64 (f 0), .int .i64 (f 1), .int .i64 (f 2), .int .i64 (f 3)]) (.int .i64 ((0 : Nat) : Int))).run Try.prog w = .ok (.int .i64 (f 0)) w := by kernel_rfl
  have x1 : (Instr.index 140 (.agg #[.int .i64 (f 0), .int .i64 (f 1), .int .i64 (f 2), .int .i64 (f 3)]) (.int .i64 ((1 : Nat) : Int))).run Try.prog w = .ok (.int .i64 (f 1)) w := by kernel_rfl
  have x2 : (Instr.index 140 (.agg #[.int .i64 (f 0), .int .i64 (f 1), .int .i64 (f 2), .int .i64 (f 3)]) (.int .i64 ((2 : Nat) : Int))).run Try.prog w = .ok (.int .i64 (f 2)) w := by kernel_rfl
  have x3 : (Instr.index 140 (.agg #[.int .i64 (f 0), .int .i64 (f 1), .int .i64 (f 2), .int .i64 (f 3)]) (.int .i64 ((3 : Nat) : Int))).run Try.prog w = .ok (.int .i64 (f 3)) w := by kernel_rfl
  have c : i = 0 ∨ i = 1 ∨ i = 2 ∨ i = 3 := by omega
  rcases c with rfl | rfl | rfl | rfl
  · exact x0
  · exact x1
  · exact x2
  · exact x3
set_option maxRecDepth 100000 in
set_option maxHeartbeats 1000000 in
theorem predict5_calls {w : World} {g : Nat} {f : Nat → Int} (h : IsP w g 5 f) (A0 : Option Addr) (c0 : Nat) (l0 : List Int) (hr0 : Kd.C (Kd.int .i64) w A0 l0.length l0) (hc0 : l0.length ≤ c0) (hl : l0.length ≤ 4611686018427387904) :
    Calls Try.prog 65 #[.pointer (some ⟨g, 0, none⟩), .slice A0 l0.length c0] w fun e w' => e = .returned (.int .i64 (sumA f (bef l0 l0.length) 4 / 2 ^ 10)) ∧ ∃ m, w' = w.drewN m := by
  have HR := Aside0.mk hr0
  have HC := Aside0.mk hc0
  have HL := Aside0.mk hl
  have c0' : w.cell? ⟨g, 0, none⟩ = some (.int .i64 5) := (blk_cell h.hg 0).trans rfl
  have c1' : w.cell? ⟨g, 1, none⟩ = some (.int .i64 (f 0)) := (blk_cell h.hg 1).trans rfl
  have c2' : w.cell? ⟨g, 2, none⟩ = some (.int .i64 (f 1)) := (blk_cell h.hg 2).trans rfl
  have c3' : w.cell? ⟨g, 3, none⟩ = some (.int .i64 (f 2)) := (blk_cell h.hg 3).trans rfl
  have c4' : w.cell? ⟨g, 4, none⟩ = some (.int .i64 (f 3)) := (blk_cell h.hg 4).trans rfl
  clear hr0 hc0 hl h
  go_enter Try.func65, Try.ntmps65
  go_wp2_with fail
  go_loopg [5, 20] 5 (fun kq v5 v20 w' => ∃ (i n : Nat) (s : Int), v20 = .int .i64 (i : Int) ∧ v5 = .int .i64 s ∧ Aside0 (s = sumA f (bef l0 l0.length) i) ∧ Aside0 (kq = 4 - i + 1) ∧ Aside0 (i ≤ 4) ∧ Aside0 (w' = w.drewN n))
  case atStart => exact ⟨0, 0, 0, rfl, rfl, ⟨rfl⟩, ⟨rfl⟩, ⟨by omega⟩, ⟨rfl⟩⟩
  case round =>
    obtain ⟨i, n, s, rfl, rfl, HS, HQ, HI, HW⟩ := hrel
    have hw := HW.out
    subst hw
    clear HW
    have hi := HI.out
    by_cases h4 : i = 4
    · subst h4
      clear hi HI
      go_wp2_with fail
      go_ret
      exact ⟨by rw [← HS.out]; rfl, n, rfl⟩
    · have hlt : i < 4 := by omega
      have HLT := Aside0.mk hlt
      have xi := index_w f i hlt
      have hi1 : decide ((i : Int) < 4) = true := decide_eq_true (by omega)
      have hi2 : decide (i < 4) = true := decide_eq_true hlt
      have e8 : wrap64 ((i : Int) + 1) = ((i + 1 : Nat) : Int) := by unfold wrap64; omega
      have HI := HI
      clear hi h4 hlt
      go_wp2_with fail
      refine (sound_before.calls A0 c0 l0 (i : Int) _ _ (Kd.C_drewN HR.out n) HC.out (before_f l0 i HL.out)).mono ?_
      rintro e w2 ⟨rfl, ⟨n2, rfl⟩⟩
      go_wp2_with fail
      go_roundg (4 - i)
      case measure => have := HQ.out; have := HLT.out; omega
      case rel => exact ⟨i + 1, n + n2, _, by rw [e8], rfl, ⟨by rw [HS.out]; rfl⟩, ⟨by have := HLT.out; omega⟩, ⟨by have := HLT.out; omega⟩, ⟨rfl⟩⟩
theorem bef_le {l : List Int} {M : Int} (h0 : 0 ≤ M) (hb : ∀ x ∈ l, -M ≤ x ∧ x ≤ M) (t k : Nat) (ht : t ≤ l.length) : -M ≤ bef l t k ∧ bef l t k ≤ M := by
  unfold bef
  by_cases h : k < t
  · rw [if_pos h]
    have hx : t - 1 - k < l.length := by omega
    have e : rd l ((t - 1 - k : Nat) : Int) = l[t - 1 - k] := by simp [rd, List.getD, List.getElem?_eq_getElem hx]
    rw [e]
    exact hb _ (List.getElem_mem hx)
  · rw [if_neg h]; omega
theorem bin_le (o i : Nat) (ho : o ≤ 4) (hi : i ≤ o) : 0 ≤ bin o i ∧ bin o i ≤ 6 := by
  have c : o = 0 ∨ o = 1 ∨ o = 2 ∨ o = 3 ∨ o = 4 := by omega
  have d : i = 0 ∨ i = 1 ∨ i = 2 ∨ i = 3 ∨ i = 4 := by omega
  rcases c with rfl | rfl | rfl | rfl | rfl <;> rcases d with rfl | rfl | rfl | rfl | rfl <;> first | decide | (exfalso; omega)
theorem bin_mul (o i : Nat) (ho : o ≤ 4) (hi : i ≤ o) : 0 ≤ bin o i * ((o : Int) - (i : Int)) ∧ bin o i * ((o : Int) - (i : Int)) ≤ 24 := by
  have c : o = 0 ∨ o = 1 ∨ o = 2 ∨ o = 3 ∨ o = 4 := by omega
  have d : i = 0 ∨ i = 1 ∨ i = 2 ∨ i = 3 ∨ i = 4 := by omega
  rcases c with rfl | rfl | rfl | rfl | rfl <;> rcases d with rfl | rfl | rfl | rfl | rfl <;> first | decide | (exfalso; omega)
theorem mul_le {a b : Int} (h1 : 0 ≤ a) (h2 : a ≤ 6) (h3 : -67108864 ≤ b) (h4 : b ≤ 67108864) : -402653184 ≤ a * b ∧ a * b ≤ 402653184 := by
  have c : a = 0 ∨ a = 1 ∨ a = 2 ∨ a = 3 ∨ a = 4 ∨ a = 5 ∨ a = 6 := by omega
  rcases c with rfl | rfl | rfl | rfl | rfl | rfl | rfl <;> omega
theorem sumP_le (o : Nat) (b : Nat → Int) (hb : ∀ k, -67108864 ≤ b k ∧ b k ≤ 67108864) (ho : o ≤ 4) : ∀ i, i ≤ o → -402653184 * (i : Int) ≤ sumP o b i ∧ sumP o b i ≤ 402653184 * (i : Int)
  | 0, _ => by simp [sumP]
  | i + 1, h => by
    have ih := sumP_le o b hb ho i (by omega)
    have := bin_le o (i + 1) ho h
    have := mul_le this.1 this.2 (hb i).1 (hb i).2
    unfold sumP
    split <;> omega
set_option maxRecDepth 100000 in
set_option maxHeartbeats 1000000 in
theorem predictO_calls {w : World} {g o : Nat} {f : Nat → Int} (ho : o ≤ 4) (h : IsP w g (o : Int) f) (A0 : Option Addr) (c0 : Nat) (l0 : List Int) (hr0 : Kd.C (Kd.int .i64) w A0 l0.length l0) (hc0 : l0.length ≤ c0) (hl : l0.length ≤ 4611686018427387904) (hb : ∀ x ∈ l0, -67108864 ≤ x ∧ x ≤ 67108864) :
    Calls Try.prog 65 #[.pointer (some ⟨g, 0, none⟩), .slice A0 l0.length c0] w fun e w' => e = .returned (.int .i64 (sumP o (bef l0 l0.length) o)) ∧ ∃ m, w' = w.drewN m := by
  have HR := Aside0.mk hr0
  have HC := Aside0.mk hc0
  have HL := Aside0.mk hl
  have HO := Aside0.mk ho
  have HB := Aside0.mk (fun k => bef_le (M := 67108864) (by omega) hb l0.length k (Nat.le_refl _))
  have c0' : w.cell? ⟨g, 0, none⟩ = some (.int .i64 (o : Int)) := (blk_cell h.hg 0).trans rfl
  have h5 : decide ((o : Int) = 5) = false := decide_eq_false (by omega)
  have h5' : ((o : Int) == 5) = false := beq_eq_false_iff_ne.mpr (by omega)
  clear hr0 hc0 hl h ho hb
  go_enter Try.func65, Try.ntmps65
  go_wp2_with fail
  go_loopg [8, 9, 38] (o + 1) (fun kq v8 v9 v38 w' => ∃ (i n : Nat) (b s : Int), v38 = .int .i64 (i : Int) ∧ v8 = .int .i64 s ∧ v9 = .int .i64 b ∧ Aside0 (s = sumP o (bef l0 l0.length) i ∧ b = bin o i) ∧ Aside0 (kq = o - i + 1) ∧ Aside0 (i ≤ o) ∧ Aside0 (w' = w.drewN n))
  case atStart => exact ⟨0, 0, 1, 0, rfl, rfl, rfl, ⟨rfl, rfl⟩, ⟨by omega⟩, ⟨by omega⟩, ⟨rfl⟩⟩
  case round =>
    obtain ⟨i, n, b, s, rfl, rfl, rfl, HS, HQ, HI, HW⟩ := hrel
    have hw := HW.out
    subst hw
    clear HW
    have hi := HI.out
    by_cases h4 : i = o
    · subst h4
      have hlt0 : decide ((i : Int) < (i : Int)) = false := decide_eq_false (by omega)
      clear hi HI
      go_wp2_with fail
      go_ret
      exact ⟨by rw [← HS.out.1]; rfl, n, rfl⟩
    · have hlt : i < o := by omega
      have HLT := Aside0.mk hlt
      have hi1 : decide ((i : Int) < (o : Int)) = true := decide_eq_true (by omega)
      have hi2 : decide (i < o) = true := decide_eq_true (by omega)
      have hi3 : i < o := hlt
      have ho := HO.out
      have e3 : wrap64 ((i : Int) + 1) = ((i + 1 : Nat) : Int) := by unfold wrap64; omega
      have e1 : wrap64 ((o : Int) - (i : Int)) = (o : Int) - (i : Int) := by unfold wrap64; omega
      obtain ⟨rfl, rfl⟩ := HS.out
      have e2 : wrap64 (bin o i * ((o : Int) - (i : Int))) = bin o i * ((o : Int) - (i : Int)) := by
        have := bin_mul o i ho hi
        unfold wrap64; omega
      have e4 : Int.tdiv (bin o i * ((o : Int) - (i : Int))) ((i : Int) + 1) = bin o (i + 1) := by
        rw [bin]
      have e4' : wrap64 (bin o (i + 1)) = bin o (i + 1) := by
        have := bin_le o (i + 1) ho (by omega)
        unfold wrap64; omega
      have e5 : wrap64 (bin o (i + 1) * bef l0 l0.length i) = bin o (i + 1) * bef l0 l0.length i := by
        have a := bin_le o (i + 1) ho (by omega)
        have := mul_le a.1 a.2 (HB.out i).1 (HB.out i).2
        unfold wrap64; omega
      have E6 := Aside0.mk (show ∀ x, sumP o (bef l0 l0.length) (i + 1) = x → wrap64 x = x from fun x hx => by
        have := sumP_le o (bef l0 l0.length) HB.out ho (i + 1) (by omega)
        rw [hx] at this
        unfold wrap64; omega)
      have hne : (i : Int) + 1 ≠ 0 := by omega
      have hne' : (((i : Int) + 1) == 0) = false := beq_eq_false_iff_ne.mpr hne
      clear hi h4 hlt ho
      by_cases hp : i % 2 = 0
      · have p2 : (i : Int) % 2 = 0 := by omega
        have p1 : Int.tmod (i : Int) 2 = 0 := (Int.tmod_eq_emod_of_nonneg (by omega)).trans p2
        have e7 : sumP o (bef l0 l0.length) (i + 1) = sumP o (bef l0 l0.length) i + bin o (i + 1) * bef l0 l0.length i := by rw [sumP, if_pos hp]
        have E7 := Aside0.mk e7
        have e8 : wrap64 (sumP o (bef l0 l0.length) i + bin o (i + 1) * bef l0 l0.length i) = sumP o (bef l0 l0.length) i + bin o (i + 1) * bef l0 l0.length i := E6.out _ e7
        clear e7 hp
        go_wp2_with fail
        refine (sound_before.calls A0 c0 l0 (i : Int) _ _ (Kd.C_drewN HR.out n) HC.out (before_f l0 i HL.out)).mono ?_
        rintro e w2 ⟨rfl, ⟨n2, rfl⟩⟩
        go_wp2_with fail
        go_roundg (o - i)
        case measure => have := HQ.out; have := HLT.out; omega
        case rel => exact ⟨i + 1, n + n2, _, _, by rw [e3], rfl, rfl, ⟨e8.trans E7.out.symm, rfl⟩, ⟨by have := HLT.out; omega⟩, ⟨by have := HLT.out; omega⟩, ⟨rfl⟩⟩
      · have p2 : (i : Int) % 2 = 1 := by omega
        have p1 : Int.tmod (i : Int) 2 = 1 := (Int.tmod_eq_emod_of_nonneg (by omega)).trans p2
        have e7 : sumP o (bef l0 l0.length) (i + 1) = sumP o (bef l0 l0.length) i - bin o (i + 1) * bef l0 l0.length i := by rw [sumP, if_neg hp]
        have E7 := Aside0.mk e7
        have e8 : wrap64 (sumP o (bef l0 l0.length) i - bin o (i + 1) * bef l0 l0.length i) = sumP o (bef l0 l0.length) i - bin o (i + 1) * bef l0 l0.length i := E6.out _ e7
        clear e7 hp
        go_wp2_with fail
        refine (sound_before.calls A0 c0 l0 (i : Int) _ _ (Kd.C_drewN HR.out n) HC.out (before_f l0 i HL.out)).mono ?_
        rintro e w2 ⟨rfl, ⟨n2, rfl⟩⟩
        go_wp2_with fail
        go_roundg (o - i)
        case measure => have := HQ.out; have := HLT.out; omega
        case rel => exact ⟨i + 1, n + n2, _, _, by rw [e3], rfl, rfl, ⟨e8.trans E7.out.symm, rfl⟩, ⟨by have := HLT.out; omega⟩, ⟨by have := HLT.out; omega⟩, ⟨rfl⟩⟩
end Go.Proofs.Ytdiemkeflmflaaa.QSound
