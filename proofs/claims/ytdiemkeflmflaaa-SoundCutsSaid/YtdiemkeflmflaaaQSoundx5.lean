/- Part of a proof: functions of the program as Lean functions, and that the machine's calls come to them. Made by a program of this session (wip/mp). -/
import Derived.Test.YtdiemkeflmflaaaQSoundx0
import Derived.Test.YtdiemkeflmflaaaQSoundx1
import Derived.Test.YtdiemkeflmflaaaQSoundx4
namespace Go.Proofs.Ytdiemkeflmflaaa.QSound
open Go.RowKit Go.Proofs.YtdiemkeflmflaaaV Go.Proofs.YtdiemkeflmflaaaW.PrintWords Go.Proofs.YtdiemkeflmflaaaW.PrintLast Go.Proofs.YtdiemkeflmflaaaW.PrintMore
attribute [local go_sem] max2_int min2_int max_two min_two max_three min_three max_four min_four   -- for this text's walks alone
set_option linter.unusedVariables false
set_option linter.unusedSimpArgs false

/-! ### sound_Check: function 32 -/
/-- A call of this function enters it. -/
structure Enters (P : Program) (N : Nat) : Prop where
  h : ∀ (args : Array Value) (w : World), (callFunc N args).run P w = .ok (.enter N args) w
theorem enters_test : Enters Try.prog 82 := ⟨fun _ _ => by kernel_rfl⟩
set_option maxRecDepth 100000 in
set_option maxHeartbeats 1000000 in
theorem index_int {w : World} (N : Nat) (hN : Enters Try.prog N) (c : Value) (p : Int → Bool) (A0 : Option Addr) (c0 : Nat) (l0 : List Int) (hr0 : Kd.C (Kd.int .i64) w A0 l0.length l0)
    (H : ∀ (x : Int) (w1 : World), Below w.heap.size w w1 → Calls Try.prog N #[.int .i64 x, c] w1 fun e w' => e = .returned (.bool (p x)) ∧ Below w.heap.size w w') :
    Calls Try.prog 126 #[.slice A0 l0.length c0, .func (.func N) #[] #[c]] w fun e w' => (∃ r : Int, e = .returned (.int .i64 r) ∧ decide (0 ≤ r) = l0.any p) ∧ Below w.heap.size w w' := by
  have HR := Aside0.mk hr0
  have HH := Aside0.mk H
  have HL := Aside0.mk (show l0.length ≤ 9223372036854775807 from hr0.2.1)
  have hN' := hN.h
  clear hr0 H hN
  go_enter Try.func126, Try.ntmps126
  go_wp2_with fail
  go_loopg [8] (l0.length + 1) (fun kq v8 w' => ∃ (i : Nat), v8 = .int .i64 (i : Int) ∧ Aside0 (kq = l0.length - i + 1) ∧ Aside0 (i ≤ l0.length ∧ (l0.take i).any p = false) ∧ Aside0 (Below w.heap.size w w'))
  case atStart => exact ⟨0, rfl, ⟨rfl⟩, ⟨⟨Nat.zero_le _, rfl⟩⟩, ⟨Below.refl _ _⟩⟩
  case round =>
    obtain ⟨i, rfl, HQ, HI, HW⟩ := hrel
    by_cases hi : i < l0.length
    · have e8 : wrap64 ((i : Int) + 1) = ((i + 1 : Nat) : Int) := by have := HL.out; unfold wrap64; omega
      obtain ⟨ad, e0, x0⟩ := Kd.at_int (Kd.C_below HR.out HW.out) (i : Int) (by omega) (by omega)
      cases e0
      rw [Int.toNat_natCast] at x0
      have hi1 : decide ((i : Int) < (l0.length : Int)) = true := decide_eq_true (by omega)
      have hi2 : decide (i < l0.length) = true := decide_eq_true hi
      have HI1 := Aside0.mk hi
      have HE : Aside0 (l0[i] = rd l0 (i : Int)) := ⟨by simp [rd, List.getD_eq_getElem?_getD, List.getElem?_eq_getElem hi]⟩
      have HTK : Aside0 ((l0.take (i + 1)).any p = p (rd l0 (i : Int))) := ⟨any_take hi HE.out HI.out.2⟩
      have HB : Aside0 (p (rd l0 (i : Int)) = true → l0.any p = true) := ⟨fun h => List.any_eq_true.mpr ⟨_, by rw [← HE.out]; exact List.getElem_mem _, h⟩⟩
      clear HE
      go_wp2_with fail
      refine (HH.out _ _ HW.out).mono ?_
      rintro e w2 ⟨rfl, hb⟩
      have HB2 := Aside0.mk hb
      clear hb
      cases hp : p (rd l0 (i : Int)) with
      | true =>
        have HBB := Aside0.mk (HB.out hp)
        go_wp2_with fail
        go_ret
        refine ⟨⟨(i : Int), rfl, ?_⟩, HB2.out⟩
        rw [decide_eq_true (Int.natCast_nonneg i), HBB.out]
      | false =>
        go_wp2_with fail
        go_roundg (l0.length - (i + 1) + 1)
        case measure => have := HQ.out; have := HI1.out; omega
        case rel => exact ⟨i + 1, by rw [e8], ⟨rfl⟩, ⟨⟨HI1.out, by rw [HTK.out, hp]⟩⟩, HB2⟩
    · have hi1 : decide ((i : Int) < (l0.length : Int)) = false := decide_eq_false (by omega)
      have hi2 : decide (i < l0.length) = false := decide_eq_false hi
      have hz : l0.any p = false := by have h9 := HI.out.2; rwa [List.take_of_length_le (by omega)] at h9
      have HZ := Aside0.mk hz
      clear hi hz
      go_wp2_with fail
      go_ret
      exact ⟨⟨-1, rfl, by rw [HZ.out]; rfl⟩, HW.out⟩
theorem contains_int {w : World} (N : Nat) (hN : Enters Try.prog N) (c : Value) (p : Int → Bool) (A0 : Option Addr) (c0 : Nat) (l0 : List Int) (hr0 : Kd.C (Kd.int .i64) w A0 l0.length l0)
    (H : ∀ (x : Int) (w1 : World), Below w.heap.size w w1 → Calls Try.prog N #[.int .i64 x, c] w1 fun e w' => e = .returned (.bool (p x)) ∧ Below w.heap.size w w') :
    Calls Try.prog 83 #[.slice A0 l0.length c0, .func (.func N) #[] #[c]] w fun e w' => e = .returned (.bool (l0.any p)) ∧ Below w.heap.size w w' := by
  have HR := Aside0.mk hr0
  have HH := Aside0.mk H
  have HN := Aside0.mk hN
  clear hr0 H hN
  go_enter Try.func83, Try.ntmps83
  go_wp2_with fail
  refine (index_int N HN.out c p A0 c0 l0 HR.out HH.out).mono ?_
  rintro e w2 ⟨⟨r, rfl, hr⟩, hb⟩
  have HRR := Aside0.mk hr
  have HB2 := Aside0.mk hb
  clear hr hb
  go_wp2_with fail
  go_ret
  exact ⟨by rw [← HRR.out]; rfl, HB2.out⟩
set_option maxRecDepth 100000 in
set_option maxHeartbeats 1000000 in
theorem index_row {w : World} (N : Nat) (hN : Enters Try.prog N) (c : Value) (p : List Int → Bool) (A0 : Option Addr) (c0 : Nat) (l0 : List (List Int)) (hr0 : Kd.C (Kd.slice 3 (Kd.int .i64)) w A0 l0.length l0)
    (H : ∀ (A : Option Addr) (x : List Int) (cx : Nat) (w1 : World), x.length ≤ cx → Kd.C (Kd.int .i64) w1 A x.length x → Below w.heap.size w w1 → Calls Try.prog N #[.slice A x.length cx, c] w1 fun e w' => e = .returned (.bool (p x)) ∧ Below w.heap.size w w') :
    Calls Try.prog 125 #[.slice A0 l0.length c0, .func (.func N) #[] #[c]] w fun e w' => (∃ r : Int, e = .returned (.int .i64 r) ∧ decide (0 ≤ r) = l0.any p) ∧ Below w.heap.size w w' := by
  have HR := Aside0.mk hr0
  have HH := Aside0.mk H
  have HL := Aside0.mk (show l0.length ≤ 9223372036854775807 from hr0.2.1)
  have hN' := hN.h
  clear hr0 H hN
  go_enter Try.func125, Try.ntmps125
  go_wp2_with fail
  go_loopg [8] (l0.length + 1) (fun kq v8 w' => ∃ (i : Nat), v8 = .int .i64 (i : Int) ∧ Aside0 (kq = l0.length - i + 1) ∧ Aside0 (i ≤ l0.length ∧ (l0.take i).any p = false) ∧ Aside0 (Below w.heap.size w w'))
  case atStart => exact ⟨0, rfl, ⟨rfl⟩, ⟨⟨Nat.zero_le _, rfl⟩⟩, ⟨Below.refl _ _⟩⟩
  case round =>
    obtain ⟨i, rfl, HQ, HI, HW⟩ := hrel
    by_cases hi : i < l0.length
    · have e8 : wrap64 ((i : Int) + 1) = ((i + 1 : Nat) : Int) := by have := HL.out; unfold wrap64; omega
      obtain ⟨ad, Ax, cx, e0, x0, hcx, hrx⟩ := at_rows (Kd.C_below HR.out HW.out) (i : Int) (by omega) (by omega)
      cases e0
      rw [Int.toNat_natCast] at x0 hcx hrx
      obtain ⟨x, hx⟩ : ∃ x, l0.getD i [] = x := ⟨_, rfl⟩
      rw [hx] at x0 hcx hrx
      have HE : Aside0 (l0[i] = x) := ⟨by rw [← hx]; simp [List.getD_eq_getElem?_getD, List.getElem?_eq_getElem hi]⟩
      have HCX := Aside0.mk hcx
      have HRX := Aside0.mk hrx
      clear hx hcx hrx
      have hi1 : decide ((i : Int) < (l0.length : Int)) = true := decide_eq_true (by omega)
      have hi2 : decide (i < l0.length) = true := decide_eq_true hi
      have HI1 := Aside0.mk hi
      have HTK : Aside0 ((l0.take (i + 1)).any p = p x) := ⟨any_take hi HE.out HI.out.2⟩
      have HB : Aside0 (p x = true → l0.any p = true) := ⟨fun h => List.any_eq_true.mpr ⟨_, by rw [← HE.out]; exact List.getElem_mem _, h⟩⟩
      clear HE
      go_wp2_with fail
      refine (HH.out _ _ _ _ HCX.out HRX.out HW.out).mono ?_
      rintro e w2 ⟨rfl, hb⟩
      have HB2 := Aside0.mk hb
      clear hb
      cases hp : p x with
      | true =>
        have HBB := Aside0.mk (HB.out hp)
        go_wp2_with fail
        go_ret
        refine ⟨⟨(i : Int), rfl, ?_⟩, HB2.out⟩
        rw [decide_eq_true (Int.natCast_nonneg i), HBB.out]
      | false =>
        go_wp2_with fail
        go_roundg (l0.length - (i + 1) + 1)
        case measure => have := HQ.out; have := HI1.out; omega
        case rel => exact ⟨i + 1, by rw [e8], ⟨rfl⟩, ⟨⟨HI1.out, by rw [HTK.out, hp]⟩⟩, HB2⟩
    · have hi1 : decide ((i : Int) < (l0.length : Int)) = false := decide_eq_false (by omega)
      have hi2 : decide (i < l0.length) = false := decide_eq_false hi
      have hz : l0.any p = false := by have h9 := HI.out.2; rwa [List.take_of_length_le (by omega)] at h9
      have HZ := Aside0.mk hz
      clear hi hz
      go_wp2_with fail
      go_ret
      exact ⟨⟨-1, rfl, by rw [HZ.out]; rfl⟩, HW.out⟩
theorem contains_row {w : World} (N : Nat) (hN : Enters Try.prog N) (c : Value) (p : List Int → Bool) (A0 : Option Addr) (c0 : Nat) (l0 : List (List Int)) (hr0 : Kd.C (Kd.slice 3 (Kd.int .i64)) w A0 l0.length l0)
    (H : ∀ (A : Option Addr) (x : List Int) (cx : Nat) (w1 : World), x.length ≤ cx → Kd.C (Kd.int .i64) w1 A x.length x → Below w.heap.size w w1 → Calls Try.prog N #[.slice A x.length cx, c] w1 fun e w' => e = .returned (.bool (p x)) ∧ Below w.heap.size w w') :
    Calls Try.prog 81 #[.slice A0 l0.length c0, .func (.func N) #[] #[c]] w fun e w' => e = .returned (.bool (l0.any p)) ∧ Below w.heap.size w w' := by
  have HR := Aside0.mk hr0
  have HH := Aside0.mk H
  have HN := Aside0.mk hN
  clear hr0 H hN
  go_enter Try.func81, Try.ntmps81
  go_wp2_with fail
  refine (index_row N HN.out c p A0 c0 l0 HR.out HH.out).mono ?_
  rintro e w2 ⟨⟨r, rfl, hr⟩, hb⟩
  have HRR := Aside0.mk hr
  have HB2 := Aside0.mk hb
  clear hr hb
  go_wp2_with fail
  go_ret
  exact ⟨by rw [← HRR.out]; rfl, HB2.out⟩
def len0 (l : List (List Int)) : Int := ((l.getD 0 []).length : Int)
theorem length_f {l : List (List Int)} (b : Int) (h : 0 < l.length) : sound_length.f b l = some (len0 l) := by
  unfold sound_length.f
  rw [if_pos (by omega)]
  rfl
set_option maxRecDepth 100000 in
set_option maxHeartbeats 1000000 in
theorem check1_calls {w : World} {g : Nat} {b : Int} {A0 : Option Addr} {c0 : Nat} {l0 : List (List Int)} (hg : w.heap[g]? = some (.cells #[.int .i64 b, .slice A0 l0.length c0] 46 (0, 0))) (hr0 : Kd.C (Kd.slice 3 (Kd.int .i64)) w A0 l0.length l0) (hc0 : l0.length ≤ c0) (hp : 0 < l0.length)
    (A : Option Addr) (x : List Int) (cx : Nat) :
    Calls Try.prog 82 #[.slice A x.length cx, .pointer (some ⟨g, 0, none⟩)] w fun e w' => e = .returned (.bool ((x.length : Int) != len0 l0)) ∧ Below w.heap.size w w' := by
  have hu := Try.underlying46
  have hcz0 : w.cell? ⟨g, 0, none⟩ = some (.int .i64 b) := (blk_cell hg 0).trans rfl
  have hcz1 : w.cell? ⟨g, 1, none⟩ = some (.slice A0 l0.length c0) := (blk_cell hg 1).trans rfl
  have HR := Aside0.mk hr0
  have HC := Aside0.mk hc0
  have HP := Aside0.mk hp
  clear hr0 hc0 hp hg
  go_enter Try.func82, Try.ntmps82
  go_wp2_with fail
  refine (sound_length.calls b A0 c0 l0 _ w HR.out HC.out (length_f b HP.out)).mono ?_
  rintro e w2 ⟨rfl, hb⟩
  have HB := Aside0.mk hb
  clear hb
  go_wp2_with fail
  go_ret
  exact ⟨rfl, HB.out⟩
def oor (t v : Int) : Bool := !decide (-t ≤ v) || !decide (v ≤ t - 1)
set_option maxRecDepth 100000 in
set_option maxHeartbeats 1000000 in
theorem check2_calls {w : World} {g : Nat} {t v : Int} (hc : w.cell? ⟨g, 0, none⟩ = some (.int .i64 t)) (h0 : 1 ≤ t) (h1 : t ≤ 9223372036854775807) :
    Calls Try.prog 84 #[.int .i64 v, .pointer (some ⟨g, 0, none⟩)] w fun e w' => e = .returned (.bool (oor t v)) ∧ Below w.heap.size w w' := by
  have e1 : wrap64 (-t) = -t := by unfold wrap64; omega
  have e2 : IntKind.i64.wrap (-t) = -t := by rw [IntKind.wrap_i64]; omega
  have e3 : wrap64 (t - 1) = t - 1 := by unfold wrap64; omega
  have HW : Aside0 (sound_within.f v (-t) (t - 1) = some (decide (-t ≤ v) && decide (v ≤ t - 1))) := ⟨by
    unfold sound_within.f
    by_cases h : v ≥ -t
    · rw [if_pos h, decide_eq_true h]; simp
    · rw [if_neg h, decide_eq_false h]; simp⟩
  clear h0 h1
  go_enter Try.func84, Try.ntmps84
  go_wp2_with fail
  refine (sound_within.calls v (-t) (t - 1) _ _ HW.out).mono ?_
  rintro e w2 ⟨rfl, ⟨n2, rfl⟩⟩
  go_wp2_with fail
  go_ret
  exact ⟨rfl, pw_below_drewN (Below.refl _ _) _⟩
theorem cells2 {w : World} {g : Nat} {u0 u1 : Value} {t : TypeId} (h : w.heap[g]? = some (.cells #[u0, u1] t (0, 0))) : w.cell? ⟨g, 0, none⟩ = some u0 ∧ w.cell? ⟨g, 1, none⟩ = some u1 ∧ w.frozen? ⟨g, 0, none⟩ = false ∧ w.frozen? ⟨g, 1, none⟩ = false :=
  ⟨(blk_cell h 0).trans rfl, (blk_cell h 1).trans rfl, blk_frozen h 0, blk_frozen h 1⟩
def checkF (b : Int) (l : List (List Int)) : Int :=
  if b < 2 ∨ 24 < b ∨ l.length < 1 ∨ 4 < l.length then 1
  else if l.any (fun x => (x.length : Int) != len0 l) = true then 4
  else if 16384 < len0 l then 2
  else if l.any (fun x => x.any (oor (2 ^ (b - 1).toNat))) = true then 1 else 0
theorem within_t {v a b : Int} (h0 : a ≤ v) (h1 : v ≤ b) : sound_within.f v a b = some true := by
  unfold sound_within.f
  rw [if_pos h0]; simp [h1]
theorem within_n {v a b : Int} (h : ¬ (a ≤ v ∧ v ≤ b)) : sound_within.f v a b = some false := by
  unfold sound_within.f
  by_cases h0 : v ≥ a
  · rw [if_pos h0]; simp; omega
  · rw [if_neg h0]
set_option maxRecDepth 100000 in
set_option maxHeartbeats 4000000 in
theorem check_calls {w : World} (b : Int) (A0 : Option Addr) (c0 : Nat) (l0 : List (List Int)) (hr0 : Kd.C (Kd.slice 3 (Kd.int .i64)) w A0 l0.length l0) (hc0 : l0.length ≤ c0) :
    Calls Try.prog 32 #[.agg #[.int .i64 b, .slice A0 l0.length c0]] w fun e w' => e = .returned (.int .i64 (checkF b l0)) ∧ Below w.heap.size w w' := by
  have hu := Try.underlying46
  have HR := Aside0.mk hr0
  have HC := Aside0.mk hc0
  have HL := Aside0.mk (show l0.length ≤ 9223372036854775807 from hr0.2.1)
  obtain ⟨r, hF⟩ : ∃ r, checkF b l0 = r := ⟨_, rfl⟩
  rw [hF]
  have HF := Aside0.mk hF
  obtain ⟨w1, hw1⟩ : ∃ w1, w.alloc (.cells #[.int .i64 b, .slice A0 l0.length c0] 46) = w1 := ⟨_, rfl⟩
  have hg0 : w1.heap[w.heap.size]? = some (.cells #[.int .i64 b, .slice A0 l0.length c0] 46 (0, 0)) := by rw [← hw1]; exact blk_new w _
  have HB1 : Aside0 (Below w.heap.size w w1) := ⟨by rw [← hw1]; exact below_alloc (Below.refl _ w) _⟩
  obtain ⟨g, hgs⟩ : ∃ g, w.heap.size = g := ⟨_, rfl⟩
  rw [hgs] at hg0
  have HG := Aside0.mk hg0
  have HR1 : Aside0 (Kd.C (Kd.slice 3 (Kd.int .i64)) w1 A0 l0.length l0) := ⟨Kd.C_below HR.out HB1.out⟩
  obtain ⟨hcz0, hcz1, hfz0, hfz1⟩ := cells2 hg0
  clear hr0 hc0 hF hg0
  by_cases hb : 2 ≤ b ∧ b ≤ 24
  · have HWB := Aside0.mk (within_t hb.1 hb.2)
    have HBB := Aside0.mk hb
    by_cases hl : 1 ≤ l0.length ∧ l0.length ≤ 4
    · have HWL : Aside0 (sound_within.f (l0.length : Int) 1 4 = some true) := ⟨within_t (by omega) (by omega)⟩
      have HLL := Aside0.mk hl
      clear hb hl
      go_enter Try.func32, Try.ntmps32
      go_wp2_with fail
      clear hw1 hgs hu
      refine (sound_within.calls b 2 24 true _ HWB.out).mono ?_
      rintro e w2 ⟨rfl, ⟨n2, rfl⟩⟩
      go_wp2_with fail
      refine (sound_within.calls (l0.length : Int) 1 4 true _ HWL.out).mono ?_
      rintro e w2 ⟨rfl, ⟨n3, rfl⟩⟩
      go_wp2_with fail
      have HL0 : Aside0 (0 < l0.length) := ⟨by have := HLL.out; omega⟩
      refine (contains_row (w := w1.drewN (n2 + n3)) 82 ⟨fun _ _ => by kernel_rfl⟩ (.pointer (some ⟨g, 0, none⟩)) (fun x => (x.length : Int) != len0 l0) A0 c0 l0 (Kd.C_drewN HR1.out _) (fun A x cx wx hcx hrx hbx =>
        (check1_calls (blk_below (blk_drewN HG.out _) hbx) (Kd.C_below (Kd.C_drewN HR1.out _) hbx) HC.out HL0.out A x cx).mono (fun e w' h => ⟨h.1, below_step hbx h.2⟩))).mono ?_
      rintro e w3 ⟨rfl, hb3⟩
      have HB3 : Aside0 (Below w.heap.size w w3) := ⟨below_step (pw_below_drewN HB1.out _) hb3⟩
      have HG3 := Aside0.mk (blk_below (blk_drewN HG.out (n2 + n3)) hb3)
      have HR3 : Aside0 (Kd.C (Kd.slice 3 (Kd.int .i64)) w3 A0 l0.length l0) := ⟨Kd.C_below HR.out HB3.out⟩
      clear hb3 hcz0 hcz1 hfz0 hfz1
      obtain ⟨hcz0, hcz1, hfz0, hfz1⟩ := cells2 HG3.out
      cases hp1 : l0.any (fun x => (x.length : Int) != len0 l0) with
      | true =>
        have hF : (4 : Int) = r := by
          rw [← HF.out, checkF, if_neg (by have := HBB.out; have := HLL.out; omega), if_pos hp1]
        cases hF
        go_wp2_with fail
        go_ret
        exact ⟨rfl, HB3.out⟩
      | false =>
        have HP1 := Aside0.mk hp1
        go_wp2_with fail
        refine (sound_length.calls b A0 c0 l0 _ w3 HR3.out HC.out (length_f b HL0.out)).mono ?_
        rintro e w4 ⟨rfl, hb4⟩
        have HB4 : Aside0 (Below w.heap.size w w4) := ⟨below_step HB3.out hb4⟩
        have HG4 := Aside0.mk (blk_below HG3.out hb4)
        clear hb4 hcz0 hcz1 hfz0 hfz1 hp1
        obtain ⟨hcz0, hcz1, hfz0, hfz1⟩ := cells2 HG4.out
        by_cases h16 : 16384 < len0 l0
        · have hd : decide (16384 < len0 l0) = true := decide_eq_true h16
          have hF : (2 : Int) = r := by
            rw [← HF.out, checkF, if_neg (by have := HBB.out; have := HLL.out; omega), if_neg (by rw [HP1.out]; simp), if_pos h16]
          cases hF
          clear h16
          go_wp2_with fail
          go_ret
          exact ⟨rfl, HB4.out⟩
        · have hd : decide (16384 < len0 l0) = false := decide_eq_false h16
          have H16 := Aside0.mk h16
          clear h16
          obtain ⟨T, hT⟩ : ∃ T : Int, 2 ^ (b - 1).toNat = T := ⟨_, rfl⟩
          have hT2 : 1 ≤ T ∧ T ≤ 8388608 := by
            have h1 := HBB.out
            have h2 := Int.pow_pos (n := 2) (m := (b - 1).toNat) (by decide)
            have h3 : (2 : Nat) ^ (b - 1).toNat ≤ 2 ^ 23 := Nat.pow_le_pow_right (by decide) (by omega)
            have h4 : ((2 : Nat) ^ (b - 1).toNat : Int) = (2 : Int) ^ (b - 1).toNat := by norm_cast
            omega
          have HT2 := Aside0.mk hT2
          have HT := Aside0.mk hT
          obtain ⟨m, hm⟩ : ∃ m : Int, b - 1 = m := ⟨_, rfl⟩
          rw [hm] at hT
          have e1 : wrap64 (b - 1) = m := by have := HBB.out; unfold wrap64; omega
          have m0 : 0 ≤ m := by have := HBB.out; omega
          have m1 : m ≤ 64 := by have := HBB.out; omega
          have e4 : wrap64 (2 ^ m.toNat) = T := by rw [hT]; unfold wrap64; omega
          have e5 : IntKind.i64.wrap (1 * 2 ^ m.toNat) = T := by rw [Int.one_mul, hT, IntKind.wrap_i64]; omega
          obtain ⟨w5, hw5⟩ : ∃ w5, w4.alloc (.cells #[.int .i64 T] 3) = w5 := ⟨_, rfl⟩
          have HG5 : Aside0 (w5.heap[g]? = some (.cells #[.int .i64 b, .slice A0 l0.length c0] 46 (0, 0))) := ⟨by rw [← hw5]; exact blk_alloc HG4.out _⟩
          obtain ⟨q, hq⟩ : ∃ q, w4.heap.size = q := ⟨_, rfl⟩
          have HQ5 : Aside0 (w5.heap[q]? = some (.cells #[.int .i64 T] 3 (0, 0))) := ⟨by rw [← hw5, ← hq]; exact blk_new w4 _⟩
          have HB5 : Aside0 (Below w.heap.size w w5) := ⟨by rw [← hw5]; exact below_alloc HB4.out _⟩
          obtain ⟨hca0, hca1, hfa0, hfa1⟩ := cells2 HG5.out
          clear hT2 hT hm
          go_wp2_with fail
          clear hw5 hq hca0 hca1 hfa0 hfa1 hcz0 hcz1 hfz0 hfz1 hd e1 m0 m1 e4 e5
          go_loopg [31] (l0.length + 1) (fun kq v31 w' => ∃ (i : Nat), v31 = .int .i64 (i : Int) ∧ Aside0 (kq = l0.length - i + 1) ∧ Aside0 (i ≤ l0.length ∧ (l0.take i).any (fun x => x.any (oor T)) = false) ∧ Aside0 (Below w.heap.size w w') ∧ Aside0 (w'.heap[q]? = some (.cells #[.int .i64 T] 3 (0, 0))))
          case atStart => exact ⟨0, rfl, ⟨rfl⟩, ⟨⟨Nat.zero_le _, rfl⟩⟩, HB5, HQ5⟩
          case round =>
            obtain ⟨i, rfl, HK, HI, HW, HQQ⟩ := hrel
            by_cases hi : i < l0.length
            · have e8 : wrap64 ((i : Int) + 1) = ((i + 1 : Nat) : Int) := by have := HL.out; unfold wrap64; omega
              obtain ⟨ad, Ax, cx, e0, x0, hcx, hrx⟩ := at_rows (Kd.C_below HR.out HW.out) (i : Int) (by omega) (by omega)
              cases e0
              rw [Int.toNat_natCast] at x0 hcx hrx
              obtain ⟨x, hx⟩ : ∃ x, l0.getD i [] = x := ⟨_, rfl⟩
              rw [hx] at x0 hcx hrx
              have HE : Aside0 (l0[i] = x) := ⟨by rw [← hx]; simp [List.getD_eq_getElem?_getD, List.getElem?_eq_getElem hi]⟩
              have HCX := Aside0.mk hcx
              have HRX := Aside0.mk hrx
              clear hx hcx hrx
              have hi1 : decide ((i : Int) < (l0.length : Int)) = true := decide_eq_true (by omega)
              have hi2 : decide (i < l0.length) = true := decide_eq_true hi
              have HI1 := Aside0.mk hi
              have HTK : Aside0 ((l0.take (i + 1)).any (fun x => x.any (oor T)) = x.any (oor T)) := ⟨any_take hi HE.out HI.out.2⟩
              have HBX : Aside0 (x.any (oor T) = true → l0.any (fun x => x.any (oor T)) = true) := ⟨fun h => List.any_eq_true.mpr ⟨x, by rw [← HE.out]; exact List.getElem_mem _, h⟩⟩
              clear HE
              go_wp2_with fail
              refine (contains_int (w := wr) 84 ⟨fun _ _ => by kernel_rfl⟩ (.pointer (some ⟨q, 0, none⟩)) (oor T) Ax cx x HRX.out (fun v wx hbx =>
                (check2_calls ((blk_cell (blk_below HQQ.out hbx) 0).trans rfl) HT2.out.1 (by have := HT2.out; omega)).mono (fun e w' h => ⟨h.1, below_step hbx h.2⟩))).mono ?_
              rintro e w6 ⟨rfl, hb6⟩
              have HB6 := Aside0.mk (below_step HW.out hb6)
              have HQ6 := Aside0.mk (blk_below HQQ.out hb6)
              clear hb6
              cases hp : x.any (oor T) with
              | true =>
                have hF : (1 : Int) = r := by
                  have h9 := HBX.out hp
                  rw [← HT.out] at h9
                  rw [← HF.out, checkF, if_neg (by have := HBB.out; have := HLL.out; omega), if_neg (by rw [HP1.out]; simp), if_neg (by have := H16.out; omega), if_pos h9]
                cases hF
                go_wp2_with fail
                go_ret
                exact ⟨rfl, HB6.out⟩
              | false =>
                go_wp2_with fail
                go_roundg (l0.length - (i + 1) + 1)
                case measure => have := HK.out; have := HI1.out; omega
                case rel => exact ⟨i + 1, by rw [e8], ⟨rfl⟩, ⟨⟨HI1.out, by rw [HTK.out, hp]⟩⟩, HB6, HQ6⟩
            · have hi1 : decide ((i : Int) < (l0.length : Int)) = false := decide_eq_false (by omega)
              have hi2 : decide (i < l0.length) = false := decide_eq_false hi
              have hz : l0.any (fun x => x.any (oor T)) = false := by have h9 := HI.out.2; rwa [List.take_of_length_le (by omega)] at h9
              have hF : (0 : Int) = r := by
                rw [← HT.out] at hz
                rw [← HF.out, checkF, if_neg (by have := HBB.out; have := HLL.out; omega), if_neg (by rw [HP1.out]; simp), if_neg (by have := H16.out; omega), if_neg (by rw [hz]; simp)]
              cases hF
              clear hi hz
              go_wp2_with fail
              go_ret
              exact ⟨rfl, HW.out⟩
    · have hF : (1 : Int) = r := by rw [← HF.out, checkF, if_pos (by omega)]
      cases hF
      have HWL : Aside0 (sound_within.f (l0.length : Int) 1 4 = some false) := ⟨within_n (by omega)⟩
      clear hb hl
      go_enter Try.func32, Try.ntmps32
      go_wp2_with fail
      clear hw1 hgs hu
      refine (sound_within.calls b 2 24 true _ HWB.out).mono ?_
      rintro e w2 ⟨rfl, ⟨n2, rfl⟩⟩
      go_wp2_with fail
      refine (sound_within.calls (l0.length : Int) 1 4 false _ HWL.out).mono ?_
      rintro e w2 ⟨rfl, ⟨n3, rfl⟩⟩
      go_wp2_with fail
      go_ret
      exact ⟨rfl, pw_below_drewN HB1.out _⟩
  · have hF : (1 : Int) = r := by rw [← HF.out, checkF, if_pos (by omega)]
    cases hF
    have HWB : Aside0 (sound_within.f b 2 24 = some false) := ⟨within_n hb⟩
    clear hb
    go_enter Try.func32, Try.ntmps32
    go_wp2_with fail
    clear hw1 hgs hu
    refine (sound_within.calls b 2 24 false _ HWB.out).mono ?_
    rintro e w2 ⟨rfl, ⟨n2, rfl⟩⟩
    go_wp2_with fail
    go_ret
    exact ⟨rfl, pw_below_drewN HB1.out _⟩
def sound_Check.f (a0_0 : Int) (l0_1 : List (List Int)) : Option Int := some (checkF a0_0 l0_1)
theorem sound_Check.calls (a0_0 : Int) (A0_1 : Option Addr) (c0_1 : Nat) (l0_1 : List (List Int)) (r : Int) (w : World) (hr0_1 : Kd.C (Kd.slice 3 (Kd.int .i64)) w A0_1 l0_1.length l0_1) (hc0_1 : l0_1.length ≤ c0_1) (h : sound_Check.f a0_0 l0_1 = some r) :
    Calls Try.prog 32 #[.agg #[.int .i64 a0_0, .slice A0_1 l0_1.length c0_1]] w fun e w' => e = .returned (.int .i64 r) ∧ Below w.heap.size w w' := by
  obtain rfl := Option.some.inj h
  exact check_calls a0_0 A0_1 c0_1 l0_1 hr0_1 hc0_1

end Go.Proofs.Ytdiemkeflmflaaa.QSound
