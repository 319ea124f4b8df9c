/- Part of a proof: functions of the program as Lean functions, and that the machine's calls come to them. Made by a program of this session (wip/mp). -/
import Derived.Test.YtmbhafgnmdfjhaaQTabx0
import Derived.Test.YtmbhafgnmdfjhaaQTabx3
namespace Go.Proofs.Ytmbhafgnmdfjhaa.QTab
open Go.RowKit Go.Proofs.YtmbhafgnmdfjhaaV Go.Proofs.YtmbhafgnmdfjhaaW.PrintWords Go.Proofs.YtmbhafgnmdfjhaaW.PrintLast Go.Proofs.YtmbhafgnmdfjhaaW.PrintMore
attribute [local go_sem] max2_int min2_int max_two min_two max_three min_three max_four min_four   -- for this text's walks alone
set_option linter.unusedVariables false
set_option linter.unusedSimpArgs false

/-! ### table_ranges: function 44 -/
/-- A call of this function enters it. -/
structure Enters (P : Program) (N : Nat) : Prop where
  h : ∀ (args : Array Value) (w : World), (callFunc N args).run P w = .ok (.enter N args) w
theorem any_tk {α : Type} {p : α → Bool} {l : List α} {i : Nat} {x : α} (hi : i < l.length) (hx : l[i] = x) (h : (l.take i).any p = false) : (l.take (i + 1)).any p = p x := by
  rw [List.take_add_one, List.any_append, h]
  simp [List.getElem?_eq_getElem hi, hx]
theorem rd_at {l : List Int} {i : Nat} (hi : i < l.length) : l[i] = rd l (i : Int) := by simp [rd, List.getD_eq_getElem?_getD, List.getElem?_eq_getElem hi]
theorem rd_at83 {l : List S83} {i : Nat} (hi : i < l.length) : l[i] = rd_T83 l (i : Int) := by simp [rd_T83, List.getD_eq_getElem?_getD, List.getElem?_eq_getElem hi]
theorem rd_at86 {l : List S86} {i : Nat} (hi : i < l.length) : l[i] = rd_T86 l (i : Int) := by simp [rd_T86, List.getD_eq_getElem?_getD, List.getElem?_eq_getElem hi]
set_option maxRecDepth 100000 in
set_option maxHeartbeats 1000000 in
theorem index_run {w : World} (N : Nat) (hN : Enters Try.prog N) (c1 : Value) (c2 : Value) (p : S83 → Bool) (A0 : Option Addr) (c0 : Nat) (l0 : List S83) (hr0 : Kd.C k83 w A0 l0.length l0)
    (H : ∀ (x : S83) (w1 : World), Below w.heap.size w w1 → Calls Try.prog N #[.agg #[.int .i64 x.f0, .int .i64 x.f1], c1, c2] w1 fun e w' => e = .returned (.bool (p x)) ∧ Below w.heap.size w w') :
    Calls Try.prog 98 #[.slice A0 l0.length c0, .func (.func N) #[] #[c1, c2]] w fun e w' => (∃ r : Int, e = .returned (.int .i64 r) ∧ decide (0 ≤ r) = l0.any p) ∧ Below w.heap.size w w' := by
  have hu83 := Try.underlying83
  have hu86 := Try.underlying86
  have HR := Aside0.mk hr0
  have HH := Aside0.mk H
  have HL := Aside0.mk (show l0.length ≤ 9223372036854775807 from hr0.2.1)
  have hN' := hN.h
  clear hr0 H hN
  go_enter Try.func98, Try.ntmps98
  go_wp2_with fail
  go_loopg [8] (l0.length + 1) (fun kq v8 w' => ∃ (i : Nat), v8 = .int .i64 (i : Int) ∧ Aside0 (kq = l0.length - i + 1) ∧ Aside0 (i ≤ l0.length ∧ (l0.take i).any p = false) ∧ Aside0 (Below w.heap.size w w'))
  case atStart => exact ⟨0, rfl, ⟨rfl⟩, ⟨⟨Nat.zero_le _, rfl⟩⟩, ⟨Below.refl _ _⟩⟩
  case round =>
    obtain ⟨i, rfl, HQ, HI, HW⟩ := hrel
    by_cases hi : i < l0.length
    · have e8 : wrap64 ((i : Int) + 1) = ((i + 1 : Nat) : Int) := by have := HL.out; unfold wrap64; omega
      obtain ⟨ad, e0, x0, x1⟩ := at_T83 (Kd.C_below HR.out HW.out) (i : Int) (by omega) (by omega)
      cases e0
      rw [Int.toNat_natCast] at x0 x1
      have hi1 : decide ((i : Int) < (l0.length : Int)) = true := decide_eq_true (by omega)
      have hi2 : decide (i < l0.length) = true := decide_eq_true hi
      have HI1 := Aside0.mk hi
      have HE : Aside0 (l0[i] = rd_T83 l0 (i : Int)) := ⟨rd_at83 hi⟩
      have HTK : Aside0 ((l0.take (i + 1)).any p = p (rd_T83 l0 (i : Int))) := ⟨any_tk hi HE.out HI.out.2⟩
      have HB : Aside0 (p (rd_T83 l0 (i : Int)) = true → l0.any p = true) := ⟨fun h => List.any_eq_true.mpr ⟨_, by rw [← HE.out]; exact List.getElem_mem _, h⟩⟩
      clear HE
      go_wp2_with fail
      refine (HH.out _ _ HW.out).mono ?_
      rintro e w2 ⟨rfl, hb⟩
      have HB2 := Aside0.mk hb
      clear hb
      cases hp : p (rd_T83 l0 (i : Int)) with
      | true =>
        have HBB := Aside0.mk (HB.out hp)
        go_wp2_with fail
        go_ret
        refine ⟨⟨(i : Int), rfl, ?_⟩, HB2.out⟩
        rw [decide_eq_true (Int.natCast_nonneg i), HBB.out]
      | false =>
        go_wp2_with fail
        go_roundg (l0.length - (i + 1) + 1)
        case measure => have := HQ.out; have := HI1.out; omega
        case rel => exact ⟨i + 1, by rw [e8], ⟨rfl⟩, ⟨⟨HI1.out, by rw [HTK.out, hp]⟩⟩, HB2⟩
    · have hi1 : decide ((i : Int) < (l0.length : Int)) = false := decide_eq_false (by omega)
      have hi2 : decide (i < l0.length) = false := decide_eq_false hi
      have hz : l0.any p = false := by have h9 := HI.out.2; rwa [List.take_of_length_le (by omega)] at h9
      have HZ := Aside0.mk hz
      clear hi hz
      go_wp2_with fail
      go_ret
      exact ⟨⟨-1, rfl, by rw [HZ.out]; rfl⟩, HW.out⟩
theorem contains_run {w : World} (N : Nat) (hN : Enters Try.prog N) (c1 : Value) (c2 : Value) (p : S83 → Bool) (A0 : Option Addr) (c0 : Nat) (l0 : List S83) (hr0 : Kd.C k83 w A0 l0.length l0)
    (H : ∀ (x : S83) (w1 : World), Below w.heap.size w w1 → Calls Try.prog N #[.agg #[.int .i64 x.f0, .int .i64 x.f1], c1, c2] w1 fun e w' => e = .returned (.bool (p x)) ∧ Below w.heap.size w w') :
    Calls Try.prog 67 #[.slice A0 l0.length c0, .func (.func N) #[] #[c1, c2]] w fun e w' => e = .returned (.bool (l0.any p)) ∧ Below w.heap.size w w' := by
  have HR := Aside0.mk hr0
  have HH := Aside0.mk H
  have HN := Aside0.mk hN
  clear hr0 H hN
  go_enter Try.func67, Try.ntmps67
  go_wp2_with fail
  refine (index_run N HN.out c1 c2 p A0 c0 l0 HR.out HH.out).mono ?_
  rintro e w2 ⟨⟨r, rfl, hr⟩, hb⟩
  have HRR := Aside0.mk hr
  have HB2 := Aside0.mk hb
  clear hr hb
  go_wp2_with fail
  go_ret
  exact ⟨by rw [← HRR.out]; rfl, HB2.out⟩
set_option maxRecDepth 100000 in
set_option maxHeartbeats 1000000 in
theorem index_int {w : World} (N : Nat) (hN : Enters Try.prog N) (c1 : Value) (p : Int → Bool) (A0 : Option Addr) (c0 : Nat) (l0 : List Int) (hr0 : Kd.C (Kd.int .i64) w A0 l0.length l0)
    (H : ∀ (x : Int) (w1 : World), Below w.heap.size w w1 → Calls Try.prog N #[.int .i64 x, c1] w1 fun e w' => e = .returned (.bool (p x)) ∧ Below w.heap.size w w') :
    Calls Try.prog 114 #[.slice A0 l0.length c0, .func (.func N) #[] #[c1]] w fun e w' => (∃ r : Int, e = .returned (.int .i64 r) ∧ decide (0 ≤ r) = l0.any p) ∧ Below w.heap.size w w' := by
  have hu83 := Try.underlying83
  have hu86 := Try.underlying86
  have HR := Aside0.mk hr0
  have HH := Aside0.mk H
  have HL := Aside0.mk (show l0.length ≤ 9223372036854775807 from hr0.2.1)
  have hN' := hN.h
  clear hr0 H hN
  go_enter Try.func114, Try.ntmps114
  go_wp2_with fail
  go_loopg [8] (l0.length + 1) (fun kq v8 w' => ∃ (i : Nat), v8 = .int .i64 (i : Int) ∧ Aside0 (kq = l0.length - i + 1) ∧ Aside0 (i ≤ l0.length ∧ (l0.take i).any p = false) ∧ Aside0 (Below w.heap.size w w'))
  case atStart => exact ⟨0, rfl, ⟨rfl⟩, ⟨⟨Nat.zero_le _, rfl⟩⟩, ⟨Below.refl _ _⟩⟩
  case round =>
    obtain ⟨i, rfl, HQ, HI, HW⟩ := hrel
    by_cases hi : i < l0.length
    · have e8 : wrap64 ((i : Int) + 1) = ((i + 1 : Nat) : Int) := by have := HL.out; unfold wrap64; omega
      obtain ⟨ad, e0, x0⟩ := Kd.at_int (Kd.C_below HR.out HW.out) (i : Int) (by omega) (by omega)
      cases e0
      rw [Int.toNat_natCast] at x0
      have hi1 : decide ((i : Int) < (l0.length : Int)) = true := decide_eq_true (by omega)
      have hi2 : decide (i < l0.length) = true := decide_eq_true hi
      have HI1 := Aside0.mk hi
      have HE : Aside0 (l0[i] = rd l0 (i : Int)) := ⟨rd_at hi⟩
      have HTK : Aside0 ((l0.take (i + 1)).any p = p (rd l0 (i : Int))) := ⟨any_tk hi HE.out HI.out.2⟩
      have HB : Aside0 (p (rd l0 (i : Int)) = true → l0.any p = true) := ⟨fun h => List.any_eq_true.mpr ⟨_, by rw [← HE.out]; exact List.getElem_mem _, h⟩⟩
      clear HE
      go_wp2_with fail
      refine (HH.out _ _ HW.out).mono ?_
      rintro e w2 ⟨rfl, hb⟩
      have HB2 := Aside0.mk hb
      clear hb
      cases hp : p (rd l0 (i : Int)) with
      | true =>
        have HBB := Aside0.mk (HB.out hp)
        go_wp2_with fail
        go_ret
        refine ⟨⟨(i : Int), rfl, ?_⟩, HB2.out⟩
        rw [decide_eq_true (Int.natCast_nonneg i), HBB.out]
      | false =>
        go_wp2_with fail
        go_roundg (l0.length - (i + 1) + 1)
        case measure => have := HQ.out; have := HI1.out; omega
        case rel => exact ⟨i + 1, by rw [e8], ⟨rfl⟩, ⟨⟨HI1.out, by rw [HTK.out, hp]⟩⟩, HB2⟩
    · have hi1 : decide ((i : Int) < (l0.length : Int)) = false := decide_eq_false (by omega)
      have hi2 : decide (i < l0.length) = false := decide_eq_false hi
      have hz : l0.any p = false := by have h9 := HI.out.2; rwa [List.take_of_length_le (by omega)] at h9
      have HZ := Aside0.mk hz
      clear hi hz
      go_wp2_with fail
      go_ret
      exact ⟨⟨-1, rfl, by rw [HZ.out]; rfl⟩, HW.out⟩
theorem contains_int {w : World} (N : Nat) (hN : Enters Try.prog N) (c1 : Value) (p : Int → Bool) (A0 : Option Addr) (c0 : Nat) (l0 : List Int) (hr0 : Kd.C (Kd.int .i64) w A0 l0.length l0)
    (H : ∀ (x : Int) (w1 : World), Below w.heap.size w w1 → Calls Try.prog N #[.int .i64 x, c1] w1 fun e w' => e = .returned (.bool (p x)) ∧ Below w.heap.size w w') :
    Calls Try.prog 89 #[.slice A0 l0.length c0, .func (.func N) #[] #[c1]] w fun e w' => e = .returned (.bool (l0.any p)) ∧ Below w.heap.size w w' := by
  have HR := Aside0.mk hr0
  have HH := Aside0.mk H
  have HN := Aside0.mk hN
  clear hr0 H hN
  go_enter Try.func89, Try.ntmps89
  go_wp2_with fail
  refine (index_int N HN.out c1 p A0 c0 l0 HR.out HH.out).mono ?_
  rintro e w2 ⟨⟨r, rfl, hr⟩, hb⟩
  have HRR := Aside0.mk hr
  have HB2 := Aside0.mk hb
  clear hr hb
  go_wp2_with fail
  go_ret
  exact ⟨by rw [← HRR.out]; rfl, HB2.out⟩
set_option maxRecDepth 100000 in
set_option maxHeartbeats 1000000 in
theorem index_chk {w : World} (N : Nat) (hN : Enters Try.prog N)  (p : S86 → Bool) (A0 : Option Addr) (c0 : Nat) (l0 : List S86) (hr0 : Kd.C k86 w A0 l0.length l0)
    (H : ∀ (x : S86) (w1 : World), Below w.heap.size w w1 → Calls Try.prog N #[.agg #[.int .i64 x.f0, .int .i64 x.f1]] w1 fun e w' => e = .returned (.bool (p x)) ∧ Below w.heap.size w w') :
    Calls Try.prog 115 #[.slice A0 l0.length c0, .func (.func N) #[] #[]] w fun e w' => (∃ r : Int, e = .returned (.int .i64 r) ∧ decide (0 ≤ r) = l0.any p) ∧ Below w.heap.size w w' := by
  have hu83 := Try.underlying83
  have hu86 := Try.underlying86
  have HR := Aside0.mk hr0
  have HH := Aside0.mk H
  have HL := Aside0.mk (show l0.length ≤ 9223372036854775807 from hr0.2.1)
  have hN' := hN.h
  clear hr0 H hN
  go_enter Try.func115, Try.ntmps115
  go_wp2_with fail
  go_loopg [8] (l0.length + 1) (fun kq v8 w' => ∃ (i : Nat), v8 = .int .i64 (i : Int) ∧ Aside0 (kq = l0.length - i + 1) ∧ Aside0 (i ≤ l0.length ∧ (l0.take i).any p = false) ∧ Aside0 (Below w.heap.size w w'))
  case atStart => exact ⟨0, rfl, ⟨rfl⟩, ⟨⟨Nat.zero_le _, rfl⟩⟩, ⟨Below.refl _ _⟩⟩
  case round =>
    obtain ⟨i, rfl, HQ, HI, HW⟩ := hrel
    by_cases hi : i < l0.length
    · have e8 : wrap64 ((i : Int) + 1) = ((i + 1 : Nat) : Int) := by have := HL.out; unfold wrap64; omega
      obtain ⟨ad, e0, x0, x1⟩ := at_T86 (Kd.C_below HR.out HW.out) (i : Int) (by omega) (by omega)
      cases e0
      rw [Int.toNat_natCast] at x0 x1
      have hi1 : decide ((i : Int) < (l0.length : Int)) = true := decide_eq_true (by omega)
      have hi2 : decide (i < l0.length) = true := decide_eq_true hi
      have HI1 := Aside0.mk hi
      have HE : Aside0 (l0[i] = rd_T86 l0 (i : Int)) := ⟨rd_at86 hi⟩
      have HTK : Aside0 ((l0.take (i + 1)).any p = p (rd_T86 l0 (i : Int))) := ⟨any_tk hi HE.out HI.out.2⟩
      have HB : Aside0 (p (rd_T86 l0 (i : Int)) = true → l0.any p = true) := ⟨fun h => List.any_eq_true.mpr ⟨_, by rw [← HE.out]; exact List.getElem_mem _, h⟩⟩
      clear HE
      go_wp2_with fail
      refine (HH.out _ _ HW.out).mono ?_
      rintro e w2 ⟨rfl, hb⟩
      have HB2 := Aside0.mk hb
      clear hb
      cases hp : p (rd_T86 l0 (i : Int)) with
      | true =>
        have HBB := Aside0.mk (HB.out hp)
        go_wp2_with fail
        go_ret
        refine ⟨⟨(i : Int), rfl, ?_⟩, HB2.out⟩
        rw [decide_eq_true (Int.natCast_nonneg i), HBB.out]
      | false =>
        go_wp2_with fail
        go_roundg (l0.length - (i + 1) + 1)
        case measure => have := HQ.out; have := HI1.out; omega
        case rel => exact ⟨i + 1, by rw [e8], ⟨rfl⟩, ⟨⟨HI1.out, by rw [HTK.out, hp]⟩⟩, HB2⟩
    · have hi1 : decide ((i : Int) < (l0.length : Int)) = false := decide_eq_false (by omega)
      have hi2 : decide (i < l0.length) = false := decide_eq_false hi
      have hz : l0.any p = false := by have h9 := HI.out.2; rwa [List.take_of_length_le (by omega)] at h9
      have HZ := Aside0.mk hz
      clear hi hz
      go_wp2_with fail
      go_ret
      exact ⟨⟨-1, rfl, by rw [HZ.out]; rfl⟩, HW.out⟩
theorem contains_chk {w : World} (N : Nat) (hN : Enters Try.prog N)  (p : S86 → Bool) (A0 : Option Addr) (c0 : Nat) (l0 : List S86) (hr0 : Kd.C k86 w A0 l0.length l0)
    (H : ∀ (x : S86) (w1 : World), Below w.heap.size w w1 → Calls Try.prog N #[.agg #[.int .i64 x.f0, .int .i64 x.f1]] w1 fun e w' => e = .returned (.bool (p x)) ∧ Below w.heap.size w w') :
    Calls Try.prog 92 #[.slice A0 l0.length c0, .func (.func N) #[] #[]] w fun e w' => e = .returned (.bool (l0.any p)) ∧ Below w.heap.size w w' := by
  have HR := Aside0.mk hr0
  have HH := Aside0.mk H
  have HN := Aside0.mk hN
  clear hr0 H hN
  go_enter Try.func92, Try.ntmps92
  go_wp2_with fail
  refine (index_chk N HN.out  p A0 c0 l0 HR.out HH.out).mono ?_
  rintro e w2 ⟨⟨r, rfl, hr⟩, hb⟩
  have HRR := Aside0.mk hr
  have HB2 := Aside0.mk hb
  clear hr hb
  go_wp2_with fail
  go_ret
  exact ⟨by rw [← HRR.out]; rfl, HB2.out⟩
theorem within_f (v a b : Int) : table_within.f v a b = some (decide (a ≤ v) && decide (v ≤ b)) := by
  unfold table_within.f
  by_cases h : v ≥ a
  · rw [if_pos h, decide_eq_true h]; simp
  · rw [if_neg h, decide_eq_false h]; simp
def badR (least most : Int) (x : S83) : Bool := decide (x.f0 < 1) || (!decide (least ≤ x.f1) || !decide (x.f1 ≤ most))
def badN (most : Int) (x : Int) : Bool := !decide (0 ≤ x) || !decide (x ≤ most)
def badC (x : S86) : Bool := !decide (0 ≤ x.f1) || !decide (x.f1 ≤ 400)
theorem rg11_calls {w : World} {b1 b2 : Nat} {least most : Int} (hc1 : w.cell? ⟨b1, 0, none⟩ = some (.int .i64 least)) (hc2 : w.cell? ⟨b2, 0, none⟩ = some (.int .i64 most)) (x : S83) :
    Calls Try.prog 87 #[.agg #[.int .i64 x.f0, .int .i64 x.f1], .pointer (some ⟨b1, 0, none⟩), .pointer (some ⟨b2, 0, none⟩)] w fun e w' => e = .returned (.bool (badR least most x)) ∧ Below w.heap.size w w' := by
  have hu83 := Try.underlying83
  obtain ⟨x0, x1⟩ := x
  have HC1 := Aside0.mk hc1
  have HC2 := Aside0.mk hc2
  clear hc1 hc2
  by_cases h1 : x0 < 1
  · have h2 : decide (x0 < 1) = true := decide_eq_true h1
    have HG : Aside0 (badR least most ⟨x0, x1⟩ = true) := ⟨by simp [badR, h1]⟩
    clear h1
    go_enter Try.func87, Try.ntmps87
    go_wp2_with (first | ((with_reducible refine gate_dst (N := 3) rfl ?_); refine box_event ?hg (N := 3) ?hd (cs := #[.int .i64 x0, .int .i64 x1]) (t := 83) ?hr ?_; (case hd => rfl); (case hg => rfl); (case hr => first | (go_simp; done) | (go_simp; rfl)); intro gb hg w3 hbox hb; have HB := Aside0.mk hb; obtain ⟨c0, c1, f0, f1⟩ := bcells2 hbox; have BK := Aside0.mk hbox; clear hb hbox hg))
    go_ret
    exact ⟨by rw [HG.out]; rfl, by repeat (first | (with_reducible first | exact HB.out | apply below_alloc | apply pw_below_drewN | apply below_drew1) | exact HB.out)⟩
  · have h2 : decide (x0 < 1) = false := decide_eq_false h1
    have HG : Aside0 (badR least most ⟨x0, x1⟩ = (!decide (least ≤ x1) || !decide (x1 ≤ most))) := ⟨by simp [badR, h1]⟩
    clear h1
    go_enter Try.func87, Try.ntmps87
    go_wp2_with (first | ((with_reducible refine gate_dst (N := 3) rfl ?_); refine box_event ?hg (N := 3) ?hd (cs := #[.int .i64 x0, .int .i64 x1]) (t := 83) ?hr ?_; (case hd => rfl); (case hg => rfl); (case hr => first | (go_simp; done) | (go_simp; rfl)); intro gb hg w3 hbox hb; have HB := Aside0.mk hb; obtain ⟨c0, c1, f0, f1⟩ := bcells2 hbox; have BK := Aside0.mk hbox; have d1 := (hb.cell (World.block_lt_of_cell? _ _ HC1.out)).trans HC1.out; have d2 := (hb.cell (World.block_lt_of_cell? _ _ HC2.out)).trans HC2.out; clear hb hbox hg))
    refine (table_within.calls x1 least most _ _ (within_f _ _ _)).mono ?_
    rintro e w2 ⟨rfl, ⟨n2, rfl⟩⟩
    go_wp2_with fail
    go_ret
    exact ⟨by rw [HG.out]; rfl, by repeat (first | (with_reducible first | exact HB.out | apply below_alloc | apply pw_below_drewN | apply below_drew1) | exact HB.out)⟩
theorem rg21_calls {w : World} {b1 : Nat} {most : Int} (hc1 : w.cell? ⟨b1, 0, none⟩ = some (.int .i64 most)) (x : Int) :
    Calls Try.prog 90 #[.int .i64 x, .pointer (some ⟨b1, 0, none⟩)] w fun e w' => e = .returned (.bool (badN most x)) ∧ Below w.heap.size w w' := by
  go_enter Try.func90, Try.ntmps90
  go_wp2_with fail
  refine (table_within.calls x 0 most _ _ (within_f _ _ _)).mono ?_
  rintro e w2 ⟨rfl, ⟨n2, rfl⟩⟩
  go_wp2_with fail
  go_ret
  exact ⟨rfl, pw_below_drewN (Below.refl _ _) _⟩
theorem rg3_calls {w : World} (x : S86) :
    Calls Try.prog 91 #[.agg #[.int .i64 x.f0, .int .i64 x.f1]] w fun e w' => e = .returned (.bool (badC x)) ∧ Below w.heap.size w w' := by
  refine (table_ranges_3.calls x.f0 x.f1 (badC x) w ?_)
  unfold table_ranges_3.f
  rw [within_f]
  simp [badC, Bool.not_and]
theorem enters11 : Enters Try.prog 87 := ⟨fun _ _ => by kernel_rfl⟩
theorem enters21 : Enters Try.prog 90 := ⟨fun _ _ => by kernel_rfl⟩
theorem enters3 : Enters Try.prog 91 := ⟨fun _ _ => by kernel_rfl⟩
theorem new_cell (w : World) (v : Value) (t : TypeId) : (w.alloc (.cells #[v] t)).cell? ⟨w.heap.size, 0, none⟩ = some v := (blk_cell (show (w.alloc (.cells #[v] t)).heap[w.heap.size]? = some (.cells #[v] t (0, 0)) by simpa using heap_alloc_new w (.cells #[v] t)) 0).trans rfl
theorem rg1_calls {w : World} (A0 : Option Addr) (c0 : Nat) (l0 : List S83) (least most : Int) (hr0 : Kd.C k83 w A0 l0.length l0) :
    Calls Try.prog 86 #[.slice A0 l0.length c0, .int .i64 least, .int .i64 most] w fun e w' => e = .returned (.bool (!(l0.any (badR least most)))) ∧ Below w.heap.size w w' := by
  obtain ⟨w1, hw1⟩ : ∃ w1, w.alloc (.cells #[.int .i64 least] 3) = w1 := ⟨_, rfl⟩
  obtain ⟨w2, hw2⟩ : ∃ w2, w1.alloc (.cells #[.int .i64 most] 3) = w2 := ⟨_, rfl⟩
  have b1 : Below w.heap.size w w1 := by rw [← hw1]; exact below_alloc (Below.refl _ _) _
  have b12 : Below w1.heap.size w1 w2 := by rw [← hw2]; exact below_alloc (Below.refl _ _) _
  have b2 : Below w.heap.size w w2 := below_step b1 b12
  have k1 : w1.cell? ⟨w.heap.size, 0, none⟩ = some (.int .i64 least) := by rw [← hw1]; exact new_cell _ _ _
  have k1' : w2.cell? ⟨w.heap.size, 0, none⟩ = some (.int .i64 least) := (b12.cell (World.block_lt_of_cell? _ _ k1)).trans k1
  have s1 : w1.heap.size = w.heap.size + 1 := by rw [← hw1]; simp
  have k2 : w2.cell? ⟨w.heap.size + 1, 0, none⟩ = some (.int .i64 most) := by rw [← hw2, ← s1]; exact new_cell _ _ _
  have HC := Aside0.mk (contains_run (w := w2) 87 enters11 (.pointer (some ⟨w.heap.size, 0, none⟩)) (.pointer (some ⟨w.heap.size + 1, 0, none⟩)) (badR least most) A0 c0 l0 (Kd.C_below hr0 b2) (fun x w3 hb => (rg11_calls ((hb.cell (World.block_lt_of_cell? _ _ k1')).trans k1') ((hb.cell (World.block_lt_of_cell? _ _ k2)).trans k2) x).mono (fun e w' h => ⟨h.1, below_step hb h.2⟩)))
  have HB := Aside0.mk b2
  clear b1 b12 b2 k1 k1' k2 hr0 s1
  subst hw2 hw1
  go_enter Try.func86, Try.ntmps86
  go_wp2_with fail
  refine HC.out.mono ?_
  rintro e w3 ⟨rfl, hb⟩
  have HB2 := Aside0.mk (below_step HB.out hb)
  clear hb
  go_wp2_with fail
  go_ret
  exact ⟨rfl, HB2.out⟩
theorem rg2_calls {w : World} (A0 : Option Addr) (c0 : Nat) (l0 : List Int) (most : Int) (hr0 : Kd.C (Kd.int .i64) w A0 l0.length l0) :
    Calls Try.prog 88 #[.slice A0 l0.length c0, .int .i64 most] w fun e w' => e = .returned (.bool (!(l0.any (badN most)))) ∧ Below w.heap.size w w' := by
  obtain ⟨w1, hw1⟩ : ∃ w1, w.alloc (.cells #[.int .i64 most] 3) = w1 := ⟨_, rfl⟩
  have b1 : Below w.heap.size w w1 := by rw [← hw1]; exact below_alloc (Below.refl _ _) _
  have k1 : w1.cell? ⟨w.heap.size, 0, none⟩ = some (.int .i64 most) := by rw [← hw1]; exact new_cell _ _ _
  have HC := Aside0.mk (contains_int (w := w1) 90 enters21 (.pointer (some ⟨w.heap.size, 0, none⟩)) (badN most) A0 c0 l0 (Kd.C_below hr0 b1) (fun x w3 hb => (rg21_calls ((hb.cell (World.block_lt_of_cell? _ _ k1)).trans k1) x).mono (fun e w' h => ⟨h.1, below_step hb h.2⟩)))
  have HB := Aside0.mk b1
  clear b1 k1 hr0
  subst hw1
  go_enter Try.func88, Try.ntmps88
  go_wp2_with fail
  refine HC.out.mono ?_
  rintro e w3 ⟨rfl, hb⟩
  have HB2 := Aside0.mk (below_step HB.out hb)
  clear hb
  go_wp2_with fail
  go_ret
  exact ⟨rfl, HB2.out⟩
theorem rg3_chk {w : World} (x : S86) (w3 : World) (hb : Below w.heap.size w w3) : Calls Try.prog 91 #[.agg #[.int .i64 x.f0, .int .i64 x.f1]] w3 fun e w' => e = .returned (.bool (badC x)) ∧ Below w.heap.size w w' :=
  (rg3_calls x).mono (fun e w' h => ⟨h.1, below_step hb h.2⟩)
def rangesB (a0 : Int) (l1 : List S83) (l2 : List S83) (l3 : List Int) (a4 : Bool) (a5 : Int) (l6 : List Int) (l7 : List S86) (l8 : List Int) (l9 : List S83) (l10 : List (List Int)) : Bool := ((decide ((-1099511627776 : Int) ≤ a0) && decide (a0 ≤ 1099511627776)) && ((!(l1.any (badR (0) 2199023255552))) && ((!(l2.any (badR (-2199023255552) 2199023255552))) && ((!(l9.any (badR (0) 1099511627776))) && ((decide ((0 : Int) ≤ a5) && decide (a5 ≤ 65536)) && ((!(l6.any (badN 65536))) && ((!(l8.any (badN 1048576))) && (!(l7.any badC)))))))))
set_option maxRecDepth 100000 in
set_option maxHeartbeats 2000000 in
theorem ranges_calls {w : World} (a0 : Int) (A1 : Option Addr) (c1 : Nat) (l1 : List S83) (A2 : Option Addr) (c2 : Nat) (l2 : List S83) (A3 : Option Addr) (c3 : Nat) (l3 : List Int) (a4 : Bool) (a5 : Int) (A6 : Option Addr) (c6 : Nat) (l6 : List Int) (A7 : Option Addr) (c7 : Nat) (l7 : List S86) (A8 : Option Addr) (c8 : Nat) (l8 : List Int) (A9 : Option Addr) (c9 : Nat) (l9 : List S83) (A10 : Option Addr) (c10 : Nat) (l10 : List (List Int)) (hr1 : Kd.C k83 w A1 l1.length l1) (hr2 : Kd.C k83 w A2 l2.length l2) (hr6 : Kd.C (Kd.int .i64) w A6 l6.length l6) (hr7 : Kd.C k86 w A7 l7.length l7) (hr8 : Kd.C (Kd.int .i64) w A8 l8.length l8) (hr9 : Kd.C k83 w A9 l9.length l9) :
    Calls Try.prog 44 #[.agg #[.int .i64 a0, .slice A1 l1.length c1, .slice A2 l2.length c2, .slice A3 l3.length c3, .bool a4, .int .i64 a5, .slice A6 l6.length c6, .slice A7 l7.length c7, .slice A8 l8.length c8, .slice A9 l9.length c9, .slice A10 l10.length c10]] w fun e w' => e = .returned (.bool (rangesB a0 l1 l2 l3 a4 a5 l6 l7 l8 l9 l10)) ∧ Below w.heap.size w w' := by
  have hu := Try.underlying27
  have H1 := Aside0.mk hr1
  have H2 := Aside0.mk hr2
  have H6 := Aside0.mk hr6
  have H7 := Aside0.mk hr7
  have H8 := Aside0.mk hr8
  have H9 := Aside0.mk hr9
  clear hr1 hr2 hr6 hr7 hr8 hr9
  obtain ⟨R, hR⟩ : ∃ R, rangesB a0 l1 l2 l3 a4 a5 l6 l7 l8 l9 l10 = R := ⟨_, rfl⟩
  have HR := Aside0.mk hR
  rw [hR]
  clear hR
  go_enter Try.func44, Try.ntmps44
  obtain ⟨w1, hw1⟩ : ∃ wz, w.alloc (.cells #[.int .i64 a0, .slice A1 l1.length c1, .slice A2 l2.length c2, .slice A3 l3.length c3, .bool a4, .int .i64 a5, .slice A6 l6.length c6, .slice A7 l7.length c7, .slice A8 l8.length c8, .slice A9 l9.length c9, .slice A10 l10.length c10] 27) = wz := ⟨_, rfl⟩
  obtain ⟨g, hg⟩ : ∃ rz, w.heap.size = rz := ⟨_, rfl⟩
  have B0 : Aside0 (Below w.heap.size w w1) := ⟨by rw [← hw1]; exact below_alloc (Below.refl _ _) _⟩
  have K0 : Aside0 (w1.heap[g]? = some (.cells #[.int .i64 a0, .slice A1 l1.length c1, .slice A2 l2.length c2, .slice A3 l3.length c3, .bool a4, .int .i64 a5, .slice A6 l6.length c6, .slice A7 l7.length c7, .slice A8 l8.length c8, .slice A9 l9.length c9, .slice A10 l10.length c10] 27 (0, 0))) := ⟨by rw [← hw1, ← hg]; exact blk_new w _⟩
  have q0 := (blk_cell K0.out 0).trans rfl
  go_wp2_with fail
  clear hw1 hg
  refine (table_within.calls a0 (-1099511627776) 1099511627776 _ w1 (within_f _ _ _)).mono ?_
  rintro e v0 ⟨rfl, hb0⟩
  have hb := hb0.below
  clear hb0
  have B1 := Aside0.mk (below_step B0.out hb)
  have K1 := Aside0.mk (blk_below K0.out hb)
  clear hb q0
  obtain ⟨t0, ht0⟩ : ∃ t, (decide ((-1099511627776 : Int) ≤ a0) && decide (a0 ≤ 1099511627776)) = t := ⟨_, rfl⟩
  have T0 := Aside0.mk ht0
  rw [ht0]
  clear ht0
  by_cases hc : t0 = false
  · subst hc
    go_wp2_with fail
    go_ret
    refine ⟨?_, B1.out⟩
    have h := HR.out; unfold rangesB at h; rw [T0.out] at h
    rw [← h]
    rfl
  have hd : t0 = true := by cases t0 <;> simp_all
  subst hd
  clear hc
  have q1 := (blk_cell K1.out 1).trans rfl
  go_wp2_with fail
  refine (rg1_calls A1 c1 l1 (0) 2199023255552 (Kd.C_below H1.out B1.out)).mono ?_
  rintro e v1 ⟨rfl, hb⟩
  have B2 := Aside0.mk (below_step B1.out hb)
  have K2 := Aside0.mk (blk_below K1.out hb)
  clear hb q1
  obtain ⟨t1, ht1⟩ : ∃ t, (!(l1.any (badR (0) 2199023255552))) = t := ⟨_, rfl⟩
  have T1 := Aside0.mk ht1
  rw [ht1]
  clear ht1
  by_cases hc : t1 = false
  · subst hc
    go_wp2_with fail
    go_ret
    refine ⟨?_, B2.out⟩
    have h := HR.out; unfold rangesB at h; rw [T0.out, T1.out] at h
    rw [← h]
    rfl
  have hd : t1 = true := by cases t1 <;> simp_all
  subst hd
  clear hc
  have q2 := (blk_cell K2.out 2).trans rfl
  go_wp2_with fail
  refine (rg1_calls A2 c2 l2 (-2199023255552) 2199023255552 (Kd.C_below H2.out B2.out)).mono ?_
  rintro e v2 ⟨rfl, hb⟩
  have B3 := Aside0.mk (below_step B2.out hb)
  have K3 := Aside0.mk (blk_below K2.out hb)
  clear hb q2
  obtain ⟨t2, ht2⟩ : ∃ t, (!(l2.any (badR (-2199023255552) 2199023255552))) = t := ⟨_, rfl⟩
  have T2 := Aside0.mk ht2
  rw [ht2]
  clear ht2
  by_cases hc : t2 = false
  · subst hc
    go_wp2_with fail
    go_ret
    refine ⟨?_, B3.out⟩
    have h := HR.out; unfold rangesB at h; rw [T0.out, T1.out, T2.out] at h
    rw [← h]
    rfl
  have hd : t2 = true := by cases t2 <;> simp_all
  subst hd
  clear hc
  have q3 := (blk_cell K3.out 9).trans rfl
  go_wp2_with fail
  refine (rg1_calls A9 c9 l9 (0) 1099511627776 (Kd.C_below H9.out B3.out)).mono ?_
  rintro e v3 ⟨rfl, hb⟩
  have B4 := Aside0.mk (below_step B3.out hb)
  have K4 := Aside0.mk (blk_below K3.out hb)
  clear hb q3
  obtain ⟨t3, ht3⟩ : ∃ t, (!(l9.any (badR (0) 1099511627776))) = t := ⟨_, rfl⟩
  have T3 := Aside0.mk ht3
  rw [ht3]
  clear ht3
  by_cases hc : t3 = false
  · subst hc
    go_wp2_with fail
    go_ret
    refine ⟨?_, B4.out⟩
    have h := HR.out; unfold rangesB at h; rw [T0.out, T1.out, T2.out, T3.out] at h
    rw [← h]
    rfl
  have hd : t3 = true := by cases t3 <;> simp_all
  subst hd
  clear hc
  have q4 := (blk_cell K4.out 5).trans rfl
  go_wp2_with fail
  refine (table_within.calls a5 (0) 65536 _ v3 (within_f _ _ _)).mono ?_
  rintro e v4 ⟨rfl, hb0⟩
  have hb := hb0.below
  clear hb0
  have B5 := Aside0.mk (below_step B4.out hb)
  have K5 := Aside0.mk (blk_below K4.out hb)
  clear hb q4
  obtain ⟨t4, ht4⟩ : ∃ t, (decide ((0 : Int) ≤ a5) && decide (a5 ≤ 65536)) = t := ⟨_, rfl⟩
  have T4 := Aside0.mk ht4
  rw [ht4]
  clear ht4
  by_cases hc : t4 = false
  · subst hc
    go_wp2_with fail
    go_ret
    refine ⟨?_, B5.out⟩
    have h := HR.out; unfold rangesB at h; rw [T0.out, T1.out, T2.out, T3.out, T4.out] at h
    rw [← h]
    rfl
  have hd : t4 = true := by cases t4 <;> simp_all
  subst hd
  clear hc
  have q5 := (blk_cell K5.out 6).trans rfl
  go_wp2_with fail
  refine (rg2_calls A6 c6 l6 65536 (Kd.C_below H6.out B5.out)).mono ?_
  rintro e v5 ⟨rfl, hb⟩
  have B6 := Aside0.mk (below_step B5.out hb)
  have K6 := Aside0.mk (blk_below K5.out hb)
  clear hb q5
  obtain ⟨t5, ht5⟩ : ∃ t, (!(l6.any (badN 65536))) = t := ⟨_, rfl⟩
  have T5 := Aside0.mk ht5
  rw [ht5]
  clear ht5
  by_cases hc : t5 = false
  · subst hc
    go_wp2_with fail
    go_ret
    refine ⟨?_, B6.out⟩
    have h := HR.out; unfold rangesB at h; rw [T0.out, T1.out, T2.out, T3.out, T4.out, T5.out] at h
    rw [← h]
    rfl
  have hd : t5 = true := by cases t5 <;> simp_all
  subst hd
  clear hc
  have q6 := (blk_cell K6.out 8).trans rfl
  go_wp2_with fail
  refine (rg2_calls A8 c8 l8 1048576 (Kd.C_below H8.out B6.out)).mono ?_
  rintro e v6 ⟨rfl, hb⟩
  have B7 := Aside0.mk (below_step B6.out hb)
  have K7 := Aside0.mk (blk_below K6.out hb)
  clear hb q6
  obtain ⟨t6, ht6⟩ : ∃ t, (!(l8.any (badN 1048576))) = t := ⟨_, rfl⟩
  have T6 := Aside0.mk ht6
  rw [ht6]
  clear ht6
  by_cases hc : t6 = false
  · subst hc
    go_wp2_with fail
    go_ret
    refine ⟨?_, B7.out⟩
    have h := HR.out; unfold rangesB at h; rw [T0.out, T1.out, T2.out, T3.out, T4.out, T5.out, T6.out] at h
    rw [← h]
    rfl
  have hd : t6 = true := by cases t6 <;> simp_all
  subst hd
  clear hc
  have q7 := (blk_cell K7.out 7).trans rfl
  go_wp2_with fail
  refine (contains_chk 91 enters3 badC A7 c7 l7 (Kd.C_below H7.out B7.out) (fun x w3 hb => rg3_chk x w3 hb)).mono ?_
  rintro e v7 ⟨rfl, hb⟩
  have B8 := Aside0.mk (below_step B7.out hb)
  have K8 := Aside0.mk (blk_below K7.out hb)
  clear hb q7
  obtain ⟨t7, ht7⟩ : ∃ t, l7.any badC = t := ⟨_, rfl⟩
  have T7 := Aside0.mk ht7
  rw [ht7]
  clear ht7
  go_wp2_with fail
  go_ret
  refine ⟨?_, B8.out⟩
  have h := HR.out; unfold rangesB at h; rw [T0.out, T1.out, T2.out, T3.out, T4.out, T5.out, T6.out, T7.out] at h
  rw [← h]
  cases t7 <;> rfl
def table_ranges.f (a0_0 : Int) (l0_1 : List S83) (l0_2 : List S83) (l0_3 : List Int) (a0_4 : Bool) (a0_5 : Int) (l0_6 : List Int) (l0_7 : List S86) (l0_8 : List Int) (l0_9 : List S83) (l0_10 : List (List Int)) : Option (Bool) := some (rangesB a0_0 l0_1 l0_2 l0_3 a0_4 a0_5 l0_6 l0_7 l0_8 l0_9 l0_10)
theorem table_ranges.calls (a0_0 : Int) (A0_1 : Option Addr) (c0_1 : Nat) (l0_1 : List S83) (A0_2 : Option Addr) (c0_2 : Nat) (l0_2 : List S83) (A0_3 : Option Addr) (c0_3 : Nat) (l0_3 : List Int) (a0_4 : Bool) (a0_5 : Int) (A0_6 : Option Addr) (c0_6 : Nat) (l0_6 : List Int) (A0_7 : Option Addr) (c0_7 : Nat) (l0_7 : List S86) (A0_8 : Option Addr) (c0_8 : Nat) (l0_8 : List Int) (A0_9 : Option Addr) (c0_9 : Nat) (l0_9 : List S83) (A0_10 : Option Addr) (c0_10 : Nat) (l0_10 : List (List Int)) (r : Bool) (w : World) (hr0_1 : Kd.C k83 w A0_1 l0_1.length l0_1) (hc0_1 : l0_1.length ≤ c0_1) (hr0_2 : Kd.C k83 w A0_2 l0_2.length l0_2) (hc0_2 : l0_2.length ≤ c0_2) (hr0_3 : Kd.C (Kd.int .i64) w A0_3 l0_3.length l0_3) (hc0_3 : l0_3.length ≤ c0_3) (hr0_6 : Kd.C (Kd.int .i64) w A0_6 l0_6.length l0_6) (hc0_6 : l0_6.length ≤ c0_6) (hr0_7 : Kd.C k86 w A0_7 l0_7.length l0_7) (hc0_7 : l0_7.length ≤ c0_7) (hr0_8 : Kd.C (Kd.int .i64) w A0_8 l0_8.length l0_8) (hc0_8 : l0_8.length ≤ c0_8) (hr0_9 : Kd.C k83 w A0_9 l0_9.length l0_9) (hc0_9 : l0_9.length ≤ c0_9) (hr0_10 : Kd.C (Kd.slice 3 (Kd.int .i64)) w A0_10 l0_10.length l0_10) (hc0_10 : l0_10.length ≤ c0_10) (h : table_ranges.f a0_0 l0_1 l0_2 l0_3 a0_4 a0_5 l0_6 l0_7 l0_8 l0_9 l0_10 = some r) :
    Calls Try.prog 44 #[.agg #[.int .i64 a0_0, .slice A0_1 l0_1.length c0_1, .slice A0_2 l0_2.length c0_2, .slice A0_3 l0_3.length c0_3, .bool a0_4, .int .i64 a0_5, .slice A0_6 l0_6.length c0_6, .slice A0_7 l0_7.length c0_7, .slice A0_8 l0_8.length c0_8, .slice A0_9 l0_9.length c0_9, .slice A0_10 l0_10.length c0_10]] w fun e w' => e = .returned (.bool r) ∧ Below w.heap.size w w' := by
  cases h
  exact ranges_calls a0_0 A0_1 c0_1 l0_1 A0_2 c0_2 l0_2 A0_3 c0_3 l0_3 a0_4 a0_5 A0_6 c0_6 l0_6 A0_7 c0_7 l0_7 A0_8 c0_8 l0_8 A0_9 c0_9 l0_9 A0_10 c0_10 l0_10 hr0_1 hr0_2 hr0_6 hr0_7 hr0_8 hr0_9

end Go.Proofs.Ytmbhafgnmdfjhaa.QTab
