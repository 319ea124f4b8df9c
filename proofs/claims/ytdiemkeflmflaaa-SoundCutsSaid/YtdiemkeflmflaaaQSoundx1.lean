/- Part of a proof: functions of the program as Lean functions, and that the machine's calls come to them. Made by a program of this session (wip/mp). -/
import Derived.Test.YtdiemkeflmflaaaQSoundx0
namespace Go.Proofs.Ytdiemkeflmflaaa.QSound
open Go.RowKit Go.Proofs.YtdiemkeflmflaaaV Go.Proofs.YtdiemkeflmflaaaW.PrintWords Go.Proofs.YtdiemkeflmflaaaW.PrintLast Go.Proofs.YtdiemkeflmflaaaW.PrintMore
attribute [local go_sem] max2_int min2_int max_two min_two max_three min_three max_four min_four   -- for this text's walks alone
set_option linter.unusedVariables false
set_option linter.unusedSimpArgs false

/-! ### sound_within: function 61 -/
def sound_within.f (a0 : Int) (a1 : Int) (a2 : Int) : Option (Bool) := if a0 ≥ a1 then (some (decide (a0 ≤ a2))) else (some false)
set_option maxHeartbeats 8000000 in
set_option maxRecDepth 100000 in
theorem sound_within.calls (a0 : Int) (a1 : Int) (a2 : Int) (r : Bool) (w : World) (h : sound_within.f a0 a1 a2 = some r) :
    Calls Try.prog 61 #[.int .i64 a0, .int .i64 a1, .int .i64 a2] w fun e w' => e = .returned (.bool r) ∧ Drawn0 w w' := by
  have H : (if a0 ≥ a1 then (some (decide (a0 ≤ a2))) else (some false)) = some r := h
  clear h
  by_cases c4 : a0 ≥ a1
  · rw [if_pos c4] at H
    have c4b0 : decide (a1 ≤ a0) = true := decide_eq_true c4
    clear c4
    obtain rfl := Option.some.inj H
    go_enter Try.func61, Try.ntmps61
    go_wp2
    go_ret
    exact ⟨by first | rfl | (simp; done) | (simp [*]; done), by repeat (first | exact Drawn0.refl _ | apply Drawn0.step)⟩
  · rw [if_neg c4] at H
    have c4b0 : decide (a1 ≤ a0) = false := decide_eq_false c4
    clear c4
    obtain rfl := Option.some.inj H
    go_enter Try.func61, Try.ntmps61
    go_wp2
    go_ret
    exact ⟨by first | rfl | (simp; done) | (simp [*]; done), by repeat (first | exact Drawn0.refl _ | apply Drawn0.step)⟩

-- NOT PRINTED: function 126 (slices_IndexFunc_int_int_126)

-- NOT PRINTED: function 83 (slices_ContainsFunc_int_int_83)

-- NOT PRINTED: function 118 (sound_beyond_1)

/-! ### sound_beyond: function 62 -/
def out (most v : Int) : Bool := !decide (-most ≤ v) || !decide (v ≤ most)
theorem within_f (v a b : Int) : sound_within.f v a b = some (decide (a ≤ v) && decide (v ≤ b)) := by
  unfold sound_within.f
  by_cases h : v ≥ a
  · rw [if_pos h, decide_eq_true h]; simp
  · rw [if_neg h, decide_eq_false h]; simp
theorem beyond1_calls {w : World} {b : Nat} {most v : Int} (hc : w.cell? ⟨b, 0, none⟩ = some (.int .i64 most)) (hm : 0 ≤ most) (hm1 : most ≤ 9223372036854775807) :
    Calls Try.prog 118 #[.int .i64 v, .pointer (some ⟨b, 0, none⟩)] w fun e w' => e = .returned (.bool (out most v)) ∧ ∃ m, w' = w.drewN m := by
  have e1 : wrap64 (-most) = -most := by unfold wrap64; omega
  have e2 : IntKind.i64.wrap (-most) = -most := by rw [IntKind.wrap_i64]; omega
  go_enter Try.func118, Try.ntmps118
  go_wp2_with fail
  refine (sound_within.calls v (-most) most _ _ (within_f _ _ _)).mono ?_
  rintro e w2 ⟨rfl, ⟨n2, rfl⟩⟩
  go_wp2_with fail
  go_ret
  exact ⟨rfl, n2, rfl⟩
theorem index_calls {w : World} {b : Nat} {most : Int} (hc : w.cell? ⟨b, 0, none⟩ = some (.int .i64 most)) (hm : 0 ≤ most) (hm1 : most ≤ 9223372036854775807) (A0 : Option Addr) (c0 : Nat) (l0 : List Int) (hr0 : Kd.C (Kd.int .i64) w A0 l0.length l0) :
    Calls Try.prog 126 #[.slice A0 l0.length c0, .func (.func 118) #[] #[.pointer (some ⟨b, 0, none⟩)]] w fun e w' => (∃ r : Int, e = .returned (.int .i64 r) ∧ decide (0 ≤ r) = l0.any (out most)) ∧ ∃ m, w' = w.drewN m := by
  have HR := Aside0.mk hr0
  have HM := Aside0.mk hm
  have HM1 := Aside0.mk hm1
  have HL := Aside0.mk (show l0.length ≤ 9223372036854775807 from hr0.2.1)
  clear hr0 hm hm1
  go_enter Try.func126, Try.ntmps126
  go_wp2_with fail
  go_loopg [8] (l0.length + 1) (fun kq v8 w' => ∃ (i n : Nat), v8 = .int .i64 (i : Int) ∧ Aside0 (kq = l0.length - i + 1) ∧ Aside0 (i ≤ l0.length ∧ (l0.take i).any (out most) = false) ∧ Aside0 (w' = w.drewN n))
  case atStart => exact ⟨0, 0, rfl, ⟨rfl⟩, ⟨⟨Nat.zero_le _, rfl⟩⟩, ⟨rfl⟩⟩
  case round =>
    obtain ⟨i, n, rfl, HQ, HI, HW⟩ := hrel
    have hw := HW.out
    subst hw
    clear HW
    by_cases hi : i < l0.length
    · have e8 : wrap64 ((i : Int) + 1) = ((i + 1 : Nat) : Int) := by have := HL.out; unfold wrap64; omega
      obtain ⟨ad, e0, x0⟩ := Kd.at_int (Kd.C_drewN HR.out n) (i : Int) (by omega) (by omega)
      cases e0
      rw [Int.toNat_natCast] at x0
      have hi1 : decide ((i : Int) < (l0.length : Int)) = true := decide_eq_true (by omega)
      have hi2 : decide (i < l0.length) = true := decide_eq_true hi
      have HI1 := Aside0.mk hi
      have htk : (l0.take (i + 1)).any (out most) = out most (rd l0 (i : Int)) := by
        have h1 := HI.out.2
        rw [List.take_add_one, List.any_append, h1]
        simp [rd, List.getD_eq_getElem?_getD, List.getElem?_eq_getElem hi]
      have HTK := Aside0.mk htk
      clear htk
      go_wp2_with fail
      refine (beyond1_calls (w := w.drewN n) hc HM.out HM1.out).mono ?_
      rintro e w2 ⟨rfl, ⟨n2, rfl⟩⟩
      cases hb : out most (rd l0 (i : Int)) with
      | true =>
        go_wp2_with fail
        go_ret
        refine ⟨⟨(i : Int), rfl, ?_⟩, n + n2, rfl⟩
        rw [decide_eq_true (Int.natCast_nonneg i)]
        refine (List.any_eq_true.mpr ⟨rd l0 (i : Int), ?_, hb⟩).symm
        have h9 := HI1.out
        simp [rd, List.getD_eq_getElem?_getD, List.getElem?_eq_getElem h9]
      | false =>
        go_wp2_with fail
        go_roundg (l0.length - (i + 1) + 1)
        case measure => have := HQ.out; have := HI1.out; omega
        case rel => exact ⟨i + 1, n + n2, by rw [e8], ⟨rfl⟩, ⟨⟨HI1.out, by rw [HTK.out, hb]⟩⟩, ⟨rfl⟩⟩
    · have hi1 : decide ((i : Int) < (l0.length : Int)) = false := decide_eq_false (by omega)
      have hi2 : decide (i < l0.length) = false := decide_eq_false hi
      have hz : l0.any (out most) = false := by have h9 := HI.out.2; rwa [List.take_of_length_le (by omega)] at h9
      have HZ := Aside0.mk hz
      clear hi hz
      go_wp2_with fail
      go_ret
      exact ⟨⟨-1, rfl, by rw [HZ.out]; rfl⟩, n, rfl⟩
theorem contains_calls {w : World} {b : Nat} {most : Int} (hc : w.cell? ⟨b, 0, none⟩ = some (.int .i64 most)) (hm : 0 ≤ most) (hm1 : most ≤ 9223372036854775807) (A0 : Option Addr) (c0 : Nat) (l0 : List Int) (hr0 : Kd.C (Kd.int .i64) w A0 l0.length l0) :
    Calls Try.prog 83 #[.slice A0 l0.length c0, .func (.func 118) #[] #[.pointer (some ⟨b, 0, none⟩)]] w fun e w' => e = .returned (.bool (l0.any (out most))) ∧ ∃ m, w' = w.drewN m := by
  have HR := Aside0.mk hr0
  go_enter Try.func83, Try.ntmps83
  go_wp2_with fail
  refine (index_calls hc hm hm1 A0 c0 l0 HR.out).mono ?_
  rintro e w2 ⟨⟨r, rfl, hr⟩, ⟨n2, rfl⟩⟩
  have HRR := Aside0.mk hr
  clear hr
  go_wp2_with fail
  go_ret
  exact ⟨by rw [← HRR.out]; rfl, n2, rfl⟩
theorem beyond_calls {w : World} {most : Int} (hm : 0 ≤ most) (hm1 : most ≤ 9223372036854775807) (A0 : Option Addr) (c0 : Nat) (l0 : List Int) (hr0 : Kd.C (Kd.int .i64) w A0 l0.length l0) :
    Calls Try.prog 62 #[.slice A0 l0.length c0, .int .i64 most] w fun e w' => e = .returned (.bool (l0.any (out most))) ∧ Below w.heap.size w w' := by
  have HB := Aside0.mk (below_alloc (Below.refl _ w) (.cells #[.int .i64 most] 3))
  have HR := Aside0.mk (Kd.C_below hr0 HB.out)
  have hb : (w.alloc (.cells #[.int .i64 most] 3)).cell? ⟨w.heap.size, 0, none⟩ = some (.int .i64 most) := (blk_cell (show (w.alloc (.cells #[.int .i64 most] 3)).heap[w.heap.size]? = some (.cells #[.int .i64 most] 3 (0, 0)) by simpa using heap_alloc_new w (.cells #[.int .i64 most] 3)) 0).trans rfl
  have HX := Aside0.mk hb
  clear hb hr0
  go_enter Try.func62, Try.ntmps62
  go_wp2_with fail
  refine (contains_calls HX.out hm hm1 A0 c0 l0 HR.out).mono ?_
  rintro e w2 ⟨rfl, ⟨n2, rfl⟩⟩
  go_wp2_with fail
  go_ret
  exact ⟨rfl, pw_below_drewN HB.out _⟩
def sound_beyond.f (l0 : List Int) (a1 : Int) : Option Bool := if 0 ≤ a1 then (if a1 ≤ 9223372036854775807 then some (l0.any (out a1)) else none) else none
theorem sound_beyond.calls (A0 : Option Addr) (c0 : Nat) (l0 : List Int) (a1 : Int) (r : Bool) (w : World) (hr0 : Kd.C (Kd.int .i64) w A0 l0.length l0) (hc0 : l0.length ≤ c0) (h : sound_beyond.f l0 a1 = some r) :
    Calls Try.prog 62 #[.slice A0 l0.length c0, .int .i64 a1] w fun e w' => e = .returned (.bool r) ∧ Below w.heap.size w w' := by
  unfold sound_beyond.f at h
  by_cases h0 : 0 ≤ a1
  · by_cases h1 : a1 ≤ 9223372036854775807
    · rw [if_pos h0, if_pos h1] at h
      obtain rfl := Option.some.inj h
      exact beyond_calls h0 h1 A0 c0 l0 hr0
    · rw [if_pos h0, if_neg h1] at h; cases h
  · rw [if_neg h0] at h; cases h

/-- A state of type 142 at block g of W; what its slices lead to came in by w0. -/
def IsS142 (w0 W : World) (g : Nat) (f0 : Int) (f1 : Int) (f2 : Int) (f3 : Int) (f4 : Int) : Prop := W.heap[g]? = some (.cells #[.int .i64 f0, .int .i64 f1, .int .i64 f2, .int .i64 f3, .int .i64 f4] 142 (0, 0)) ∧ w0.heap.size ≤ g
theorem IsS142.grown {w0 W : World} {g : Nat} {f0 : Int} {f1 : Int} {f2 : Int} {f3 : Int} {f4 : Int} {W1 : World} {row : Option Nat} (h : IsS142 w0 W g f0 f1 f2 f3 f4) (hw : W.grownBy W1 row) (hne : some g ≠ row) : IsS142 w0 W1 g f0 f1 f2 f3 f4 := by
  obtain ⟨hb, hg⟩ := h
  exact ⟨blk_grown hb hw hne, hg⟩
theorem IsS142.own_neN {w0 W : World} {g : Nat} {f0 : Int} {f1 : Int} {f2 : Int} {f3 : Int} {f4 : Int} {α : Type} {d : Kd α} {e : Nat} {base : Nat} {ok : Nat → Prop} {v : Value} {xs : List α} (h : IsS142 w0 W g f0 f1 f2 f3 f4) (ho : Kd.N d e W base ok v xs) (ht : e ≠ 142) : some g ≠ v.ownBlock := by
  obtain ⟨hb, hg⟩ := h
  exact Kd.N_ne ho hb ht
theorem IsS142.fresh {w0 W : World} {g : Nat} {f0 : Int} {f1 : Int} {f2 : Int} {f3 : Int} {f4 : Int} (h : IsS142 w0 W g f0 f1 f2 f3 f4) : ∀ k, W.heap.size ≤ k → k ≠ g := by
  obtain ⟨hb, hg⟩ := h
  exact Kd.freshB hb
theorem IsS142.kept {w0 W : World} {g : Nat} {f0 : Int} {f1 : Int} {f2 : Int} {f3 : Int} {f4 : Int} {W1 : World} {S : Nat → Prop} (h : IsS142 w0 W g f0 f1 f2 f3 f4) (hk : Kept W W1 S) (hne : ¬ S g) : IsS142 w0 W1 g f0 f1 f2 f3 f4 := by
  obtain ⟨hb, hg⟩ := h
  exact ⟨blk_kept hb hk hne, hg⟩
theorem IsS142.below {w0 W : World} {g : Nat} {f0 : Int} {f1 : Int} {f2 : Int} {f3 : Int} {f4 : Int} {W1 : World} (h : IsS142 w0 W g f0 f1 f2 f3 f4) (hw : Below W.heap.size W W1) : IsS142 w0 W1 g f0 f1 f2 f3 f4 := h.grown (grown_of_below hw none) (by simp)
theorem IsS142.alloc {w0 W : World} {g : Nat} {f0 : Int} {f1 : Int} {f2 : Int} {f3 : Int} {f4 : Int} (h : IsS142 w0 W g f0 f1 f2 f3 f4) (o : Obj) : IsS142 w0 (W.alloc o) g f0 f1 f2 f3 f4 := h.below (below_alloc (Below.refl _ _) o)
theorem IsS142.drewN {w0 W : World} {g : Nat} {f0 : Int} {f1 : Int} {f2 : Int} {f3 : Int} {f4 : Int} (h : IsS142 w0 W g f0 f1 f2 f3 f4) (m : Nat) : IsS142 w0 (W.drewN m) g f0 f1 f2 f3 f4 := h
theorem IsS142.drew {w0 W : World} {g : Nat} {f0 : Int} {f1 : Int} {f2 : Int} {f3 : Int} {f4 : Int} (h : IsS142 w0 W g f0 f1 f2 f3 f4) : IsS142 w0 W.drew g f0 f1 f2 f3 f4 := h
theorem IsS142.at_ {w0 W : World} {g : Nat} {f0 : Int} {f1 : Int} {f2 : Int} {f3 : Int} {f4 : Int} {w' : World} {m : Nat} (hq : W.drewN m = w') (h : IsS142 w0 W g f0 f1 f2 f3 f4) : IsS142 w0 w' g f0 f1 f2 f3 f4 := by subst hq; exact IsS142.drewN h m
theorem IsS142.apart {w0 W : World} {g : Nat} {f0 : Int} {f1 : Int} {f2 : Int} {f3 : Int} {f4 : Int} {α : Type} {d : Kd α} {e : Nat} {base : Nat} {ok : Nat → Prop} {v : Value} {xs : List α} (h : IsS142 w0 W g f0 f1 f2 f3 f4) (ho : d.R e W base ok v xs) (ht : ∀ q, q ∈ e :: d.E → q ≠ 142) : d.R e W base (fun k => ok k ∧ k ≠ g) v xs := by
  obtain ⟨hb, hg⟩ := h
  exact Kd.R_types ho hb ht
theorem IsS142.own_ne {w0 W : World} {g : Nat} {f0 : Int} {f1 : Int} {f2 : Int} {f3 : Int} {f4 : Int} {α : Type} {d : Kd α} {e : Nat} {base : Nat} {ok : Nat → Prop} {v : Value} {xs : List α} (h : IsS142 w0 W g f0 f1 f2 f3 f4) (ho : d.R e W base ok v xs) (ht : e ≠ 142) : some g ≠ v.ownBlock := by
  obtain ⟨hb, hg⟩ := h
  exact Kd.R_ne ho hb ht
theorem IsS142.apartQ {w0 W : World} {g : Nat} {f0 : Int} {f1 : Int} {f2 : Int} {f3 : Int} {f4 : Int} {α : Type} {d : Kd α} {e : Nat} {base : Nat} {ok : Nat → Prop} {v : Value} {xs : List α} (h : IsS142 w0 W g f0 f1 f2 f3 f4) (ho : d.Q e W base ok v xs) (ht : ∀ q, q ∈ e :: d.E → q ≠ 142) : d.Q e W base (fun k => ok k ∧ k ≠ g) v xs := by
  obtain ⟨hb, hg⟩ := h
  exact Kd.Q_types ho hb ht
theorem IsS142.own_neQ {w0 W : World} {g : Nat} {f0 : Int} {f1 : Int} {f2 : Int} {f3 : Int} {f4 : Int} {α : Type} {d : Kd α} {e : Nat} {base : Nat} {ok : Nat → Prop} {v : Value} {xs : List α} (h : IsS142 w0 W g f0 f1 f2 f3 f4) (ho : d.Q e W base ok v xs) (ht : e ≠ 142) : some g ≠ v.ownBlock := by
  obtain ⟨hb, hg⟩ := h
  exact Kd.Q_ne ho hb ht
theorem IsS142.apartS {w0 W : World} {g : Nat} {f0 : Int} {f1 : Int} {f2 : Int} {f3 : Int} {f4 : Int} {α : Type} {d : Kd α} {e : Nat} {base : Nat} {ok : Nat → Prop} {v : Value} {xs : List α} (h : IsS142 w0 W g f0 f1 f2 f3 f4) (ho : d.S e W base ok v xs) (ht : ∀ q, q ∈ e :: d.E → q ≠ 142) : d.S e W base (fun k => ok k ∧ k ≠ g) v xs := by
  obtain ⟨hb, hg⟩ := h
  exact Kd.S_types ho hb ht
theorem IsS142.own_neS {w0 W : World} {g : Nat} {f0 : Int} {f1 : Int} {f2 : Int} {f3 : Int} {f4 : Int} {α : Type} {d : Kd α} {e : Nat} {base : Nat} {ok : Nat → Prop} {v : Value} {xs : List α} (h : IsS142 w0 W g f0 f1 f2 f3 f4) (ho : d.S e W base ok v xs) (ht : e ≠ 142) : some g ≠ v.ownBlock := by
  obtain ⟨hb, hg⟩ := h
  exact Kd.S_ne ho hb ht
theorem IsS142.lt {w0 W : World} {g : Nat} {f0 : Int} {f1 : Int} {f2 : Int} {f3 : Int} {f4 : Int} (h : IsS142 w0 W g f0 f1 f2 f3 f4) : g < W.heap.size := by
  obtain ⟨hb, hg⟩ := h
  exact blk_lt hb
theorem IsS142.ge {w0 W : World} {g : Nat} {f0 : Int} {f1 : Int} {f2 : Int} {f3 : Int} {f4 : Int} (h : IsS142 w0 W g f0 f1 f2 f3 f4) : w0.heap.size ≤ g := by
  obtain ⟨hb, hg⟩ := h
  exact hg
theorem IsS142.ne_blk {w0 W : World} {g : Nat} {f0 : Int} {f1 : Int} {f2 : Int} {f3 : Int} {f4 : Int} {a : Nat} {cs : Array Value} {t : TypeId} {fr : Nat × Nat} (h : IsS142 w0 W g f0 f1 f2 f3 f4) (hb2 : W.heap[a]? = some (.cells cs t fr)) (ht : t ≠ 142) : g ≠ a := by
  obtain ⟨hb, hg⟩ := h
  rintro rfl
  rw [hb] at hb2
  injection hb2 with hb2
  injection hb2 with _ ht2
  exact ht ht2.symm
theorem IsS142.far {w0 W : World} {g : Nat} {f0 : Int} {f1 : Int} {f2 : Int} {f3 : Int} {f4 : Int} {p : Addr} (h : IsS142 w0 W g f0 f1 f2 f3 f4) (hne : g ≠ p.block) (u : Value) : IsS142 w0 (W.setCell p u) g f0 f1 f2 f3 f4 := by
  obtain ⟨hb, hg⟩ := h
  exact ⟨blk_far hb hne u, hg⟩
theorem cellS142_0 {W : World} {g : Nat} {f0 : Int} {f1 : Int} {f2 : Int} {f3 : Int} {f4 : Int} (h : W.heap[g]? = some (.cells #[.int .i64 f0, .int .i64 f1, .int .i64 f2, .int .i64 f3, .int .i64 f4] 142 (0, 0))) : W.cell? ⟨g, 0, none⟩ = some (.int .i64 f0) := (blk_cell h 0).trans rfl
theorem IsS142.set_0 {w0 W : World} {g : Nat} {f0 : Int} {f1 : Int} {f2 : Int} {f3 : Int} {f4 : Int} (h : IsS142 w0 W g f0 f1 f2 f3 f4) (x : Int) : IsS142 w0 (W.setCell ⟨g, 0, none⟩ (.int .i64 x)) g x f1 f2 f3 f4 := by
  obtain ⟨hb, hg⟩ := h
  exact ⟨by simpa using blk_set hb 0 (.int .i64 x), hg⟩
theorem cellS142_1 {W : World} {g : Nat} {f0 : Int} {f1 : Int} {f2 : Int} {f3 : Int} {f4 : Int} (h : W.heap[g]? = some (.cells #[.int .i64 f0, .int .i64 f1, .int .i64 f2, .int .i64 f3, .int .i64 f4] 142 (0, 0))) : W.cell? ⟨g, 1, none⟩ = some (.int .i64 f1) := (blk_cell h 1).trans rfl
theorem IsS142.set_1 {w0 W : World} {g : Nat} {f0 : Int} {f1 : Int} {f2 : Int} {f3 : Int} {f4 : Int} (h : IsS142 w0 W g f0 f1 f2 f3 f4) (x : Int) : IsS142 w0 (W.setCell ⟨g, 1, none⟩ (.int .i64 x)) g f0 x f2 f3 f4 := by
  obtain ⟨hb, hg⟩ := h
  exact ⟨by simpa using blk_set hb 1 (.int .i64 x), hg⟩
theorem cellS142_2 {W : World} {g : Nat} {f0 : Int} {f1 : Int} {f2 : Int} {f3 : Int} {f4 : Int} (h : W.heap[g]? = some (.cells #[.int .i64 f0, .int .i64 f1, .int .i64 f2, .int .i64 f3, .int .i64 f4] 142 (0, 0))) : W.cell? ⟨g, 2, none⟩ = some (.int .i64 f2) := (blk_cell h 2).trans rfl
theorem IsS142.set_2 {w0 W : World} {g : Nat} {f0 : Int} {f1 : Int} {f2 : Int} {f3 : Int} {f4 : Int} (h : IsS142 w0 W g f0 f1 f2 f3 f4) (x : Int) : IsS142 w0 (W.setCell ⟨g, 2, none⟩ (.int .i64 x)) g f0 f1 x f3 f4 := by
  obtain ⟨hb, hg⟩ := h
  exact ⟨by simpa using blk_set hb 2 (.int .i64 x), hg⟩
theorem cellS142_3 {W : World} {g : Nat} {f0 : Int} {f1 : Int} {f2 : Int} {f3 : Int} {f4 : Int} (h : W.heap[g]? = some (.cells #[.int .i64 f0, .int .i64 f1, .int .i64 f2, .int .i64 f3, .int .i64 f4] 142 (0, 0))) : W.cell? ⟨g, 3, none⟩ = some (.int .i64 f3) := (blk_cell h 3).trans rfl
theorem IsS142.set_3 {w0 W : World} {g : Nat} {f0 : Int} {f1 : Int} {f2 : Int} {f3 : Int} {f4 : Int} (h : IsS142 w0 W g f0 f1 f2 f3 f4) (x : Int) : IsS142 w0 (W.setCell ⟨g, 3, none⟩ (.int .i64 x)) g f0 f1 f2 x f4 := by
  obtain ⟨hb, hg⟩ := h
  exact ⟨by simpa using blk_set hb 3 (.int .i64 x), hg⟩
theorem cellS142_4 {W : World} {g : Nat} {f0 : Int} {f1 : Int} {f2 : Int} {f3 : Int} {f4 : Int} (h : W.heap[g]? = some (.cells #[.int .i64 f0, .int .i64 f1, .int .i64 f2, .int .i64 f3, .int .i64 f4] 142 (0, 0))) : W.cell? ⟨g, 4, none⟩ = some (.int .i64 f4) := (blk_cell h 4).trans rfl
theorem IsS142.set_4 {w0 W : World} {g : Nat} {f0 : Int} {f1 : Int} {f2 : Int} {f3 : Int} {f4 : Int} (h : IsS142 w0 W g f0 f1 f2 f3 f4) (x : Int) : IsS142 w0 (W.setCell ⟨g, 4, none⟩ (.int .i64 x)) g f0 f1 f2 f3 x := by
  obtain ⟨hb, hg⟩ := h
  exact ⟨by simpa using blk_set hb 4 (.int .i64 x), hg⟩
theorem IsS142.new (w0 W : World) (f0 : Int) (f1 : Int) (f2 : Int) (f3 : Int) (f4 : Int) (hB : Below w0.heap.size w0 W) : IsS142 w0 (W.alloc (.cells #[.int .i64 f0, .int .i64 f1, .int .i64 f2, .int .i64 f3, .int .i64 f4] 142)) W.heap.size f0 f1 f2 f3 f4 := ⟨by simpa using heap_alloc_new W _, hB.size⟩

/-! ### sound_newPredictor: function 63 -/
def sound_newPredictor.f (a0 : Int) : Option (Int × Int × Int × Int × Int) := some (a0, 1024, 0, 0, 0)
set_option maxHeartbeats 8000000 in
set_option maxRecDepth 100000 in
theorem sound_newPredictor.calls (a0 : Int) (r1 : Int) (r2 : Int) (r3 : Int) (r4 : Int) (r5 : Int) (w0 w : World) (hB : Below w0.heap.size w0 w) (h : sound_newPredictor.f a0 = some (r1, r2, r3, r4, r5)) :
    Calls Try.prog 63 #[.int .i64 a0] w fun e w' => ∃ g_ : Nat, e = .returned (.pointer (some ⟨g_, 0, none⟩)) ∧ IsS142 w0 w' g_ r1 r2 r3 r4 r5 ∧ Below w0.heap.size w0 w' ∧ Below w.heap.size w w' := by
  have hu140 := Try.underlying140
  have hu142 := Try.underlying142
  have HBW := Aside0.mk (Below.refl w.heap.size w)
  have HW0 := Aside0.mk hB.size
  have HB := Aside0.mk hB
  clear hB
  have H : (some (a0, 1024, 0, 0, 0)) = some (r1, r2, r3, r4, r5) := h
  clear h
  simp only [Option.some.injEq, Prod.mk.injEq] at H
  obtain ⟨rfl, rfl, rfl, rfl, rfl⟩ := H
  go_enter Try.func63, Try.ntmps63
  go_wp2_with (first | ((with_reducible refine gate_dst (N := 6) rfl ?_); refine box_event ?hg (N := 6) ?hd (cs := #[.int .i64 a0, .int .i64 1024, .int .i64 0, .int .i64 0, .int .i64 0]) (t := 142) ?hr ?_; (case hd => rfl); (case hg => rfl); (case hr => first | (go_simp; done) | (go_simp; rfl)); intro gb101 hg w2 hbox hb; have n0_ := Aside0.mk (below_step HBW.out hb); have n1_ := Aside0.mk (below_step (by repeat (first | (with_reducible first | exact HB.out | apply below_alloc | apply pw_below_drewN | apply below_drew1) | exact HB.out)) hb); have n2_ := Aside0.mk (hbox); have n3_ := Aside0.mk ((by rw [hg]; exact (below_size (by repeat (first | (with_reducible first | exact HBW.out | apply below_alloc | apply pw_below_drewN | apply below_drew1) | exact HBW.out))) : w.heap.size ≤ gb101)); have n4_ := Aside0.mk ((Nat.le_trans HW0.out (by rw [hg]; exact (below_size (by repeat (first | (with_reducible first | exact HBW.out | apply below_alloc | apply pw_below_drewN | apply below_drew1) | exact HBW.out))) : w.heap.size ≤ gb101) : w0.heap.size ≤ gb101)); clear HBW; clear HB; have HBW := n0_; have HB := n1_; have BK101 := n2_; have GW101 := n3_; have GE101 := n4_; clear n0_ n1_ n2_ n3_ n4_; clear hb hbox hg))
  go_ret
  exact ⟨_, rfl, (show IsS142 w0 _ gb101 a0 1024 0 0 0 from ⟨by (with_reducible repeat (first | refine blk_drewN ?_ _ | refine blk_drew ?_ | refine blk_alloc ?_ _)); exact BK101.out, GE101.out⟩), by repeat (first | (with_reducible first | exact HB.out | apply below_alloc | apply pw_below_drewN | apply below_drew1 | refine below_set ?_ GE101.out) | exact HB.out), by repeat (first | (with_reducible first | exact HBW.out | apply below_alloc | apply pw_below_drewN | apply below_drew1 | refine below_set ?_ GW101.out) | exact HBW.out)⟩

/-! ### sound_predictor_warm: function 64 -/
def sound_predictor_warm.f (s0_0 : Int) (s0_1 : Int) (s0_2 : Int) (s0_3 : Int) (s0_4 : Int) (a1 : Int) : Option (Int × Int × Int × Int × Int × Int) := if s0_0 = 5 then (some (0, s0_0, s0_1, s0_2, s0_3, s0_4)) else (some (mn s0_0 a1, s0_0, s0_1, s0_2, s0_3, s0_4))
set_option maxHeartbeats 8000000 in
set_option maxRecDepth 100000 in
theorem sound_predictor_warm.calls (g : Nat) (s0_0 : Int) (s0_1 : Int) (s0_2 : Int) (s0_3 : Int) (s0_4 : Int) (a1 : Int) (r1 : Int) (r2 : Int) (r3 : Int) (r4 : Int) (r5 : Int) (r6 : Int) (w0 w : World) (hI : IsS142 w0 w g s0_0 s0_1 s0_2 s0_3 s0_4) (hB : Below w0.heap.size w0 w) (h : sound_predictor_warm.f s0_0 s0_1 s0_2 s0_3 s0_4 a1 = some (r1, r2, r3, r4, r5, r6)) :
    Calls Try.prog 64 #[.pointer (some ⟨g, 0, none⟩), .int .i64 a1] w fun e w' => e = .returned (.int .i64 r1) ∧ IsS142 w0 w' g r2 r3 r4 r5 r6 ∧ Below w0.heap.size w0 w' ∧ KeepBut w w' g none := by
  have HI0 := Aside0.mk hI
  have HK := Aside0.mk (KeepBut.refl w g none)
  have HL := Aside0.mk hB.size
  clear hI
  have HW0 := Aside0.mk hB.size
  have HB := Aside0.mk hB
  clear hB
  have H : (if s0_0 = 5 then (some (0, s0_0, s0_1, s0_2, s0_3, s0_4)) else (some (mn s0_0 a1, s0_0, s0_1, s0_2, s0_3, s0_4))) = some (r1, r2, r3, r4, r5, r6) := h
  clear h
  by_cases c3 : s0_0 = 5
  · rw [if_pos c3] at H
    have c3b0 : (s0_0 == 5) = true := beq_iff_eq.mpr c3
    have c3b1 : (s0_0 != 5) = false := bne_eq_false_iff_eq.mpr c3
    clear c3
    simp only [Option.some.injEq, Prod.mk.injEq] at H
    obtain ⟨rfl, rfl, rfl, rfl, rfl, rfl⟩ := H
    obtain ⟨HGz4, hgz4⟩ := HI0.out
    have hcz4_0 := cellS142_0 HGz4
    have hcz4_1 := cellS142_1 HGz4
    have hcz4_2 := cellS142_2 HGz4
    have hcz4_3 := cellS142_3 HGz4
    have hcz4_4 := cellS142_4 HGz4
    have hfz4_0 := blk_frozen HGz4 0
    have hfz4_1 := blk_frozen HGz4 1
    have hfz4_2 := blk_frozen HGz4 2
    have hfz4_3 := blk_frozen HGz4 3
    have hfz4_4 := blk_frozen HGz4 4
    clear HGz4 hgz4
    go_enter Try.func64, Try.ntmps64
    go_wp2
    go_ret
    exact ⟨by first | rfl | (simp [errW_none, errW_some] <;> rfl) | (simp [*, errW_none, errW_some] <;> rfl), by repeat (first | (with_reducible first | exact HI0.out | apply IsS142.alloc | apply IsS142.drewN | apply IsS142.drew | apply IsS142.set_0 | apply IsS142.set_1 | apply IsS142.set_2 | apply IsS142.set_3 | apply IsS142.set_4) | exact HI0.out), by repeat (first | (with_reducible first | exact HB.out | apply below_alloc | apply pw_below_drewN | apply below_drew1 | refine below_set ?_ (IsS142.ge HI0.out)) | exact HB.out), by repeat (first | (with_reducible first | exact HK.out | apply KeepBut.set_ | apply keep_drewN | apply keep_drew | apply keep_alloc) | exact HK.out)⟩
  · rw [if_neg c3] at H
    have c3b0 : (s0_0 == 5) = false := beq_eq_false_iff_ne.mpr c3
    have c3b1 : (s0_0 != 5) = true := bne_iff_ne.mpr c3
    obtain ⟨ji5, hji5⟩ : ∃ j_ : Int, (mn s0_0 a1) = j_ := ⟨_, rfl⟩
    replace H : (some (ji5, s0_0, s0_1, s0_2, s0_3, s0_4)) = some (r1, r2, r3, r4, r5, r6) := by first | (rw [hji5] at H; exact H) | (simp only [hji5] at H ⊢; exact H)
    have hji5_ : (if a1 < s0_0 then a1 else s0_0) = ji5 := hji5
    simp only [Option.some.injEq, Prod.mk.injEq] at H
    obtain ⟨rfl, rfl, rfl, rfl, rfl, rfl⟩ := H
    obtain ⟨HGz6, hgz6⟩ := HI0.out
    have hcz6_0 := cellS142_0 HGz6
    have hcz6_1 := cellS142_1 HGz6
    have hcz6_2 := cellS142_2 HGz6
    have hcz6_3 := cellS142_3 HGz6
    have hcz6_4 := cellS142_4 HGz6
    have hfz6_0 := blk_frozen HGz6 0
    have hfz6_1 := blk_frozen HGz6 1
    have hfz6_2 := blk_frozen HGz6 2
    have hfz6_3 := blk_frozen HGz6 3
    have hfz6_4 := blk_frozen HGz6 4
    clear HGz6 hgz6
    go_enter Try.func64, Try.ntmps64
    go_wp2
    go_ret
    exact ⟨by first | rfl | (simp [errW_none, errW_some] <;> rfl) | (simp only [← hji5]; first | rfl | (simp [errW_none, errW_some] <;> rfl)) | (simp [*, errW_none, errW_some] <;> rfl), by repeat (first | (with_reducible first | exact HI0.out | apply IsS142.alloc | apply IsS142.drewN | apply IsS142.drew | apply IsS142.set_0 | apply IsS142.set_1 | apply IsS142.set_2 | apply IsS142.set_3 | apply IsS142.set_4) | exact HI0.out), by repeat (first | (with_reducible first | exact HB.out | apply below_alloc | apply pw_below_drewN | apply below_drew1 | refine below_set ?_ (IsS142.ge HI0.out)) | exact HB.out), by repeat (first | (with_reducible first | exact HK.out | apply KeepBut.set_ | apply keep_drewN | apply keep_drew | apply keep_alloc) | exact HK.out)⟩

end Go.Proofs.Ytdiemkeflmflaaa.QSound
