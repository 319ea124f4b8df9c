/- A lemma file: dioramalaw09.TableChecks, walked. No condition. -/
import Derived.Test.YtmbhafgnmdfjhaaPTall
import Derived.Test.YtmbhafgnmdfjhaaHA
import Derived.Test.YtmbhafgnmdfjhaaHSall
namespace Go.Proofs.Ytmbhafgnmdfjhaa.QTab
open Go.Proofs.Ytmbhafgnmdfjhaa.PureT Go.RowKit Go.Proofs.YtmbhafgnmdfjhaaW.PrintWords Go.Proofs.YtmbhafgnmdfjhaaW.PrintLast Go.Proofs.YtmbhafgnmdfjhaaW.PrintMore Go.Proofs.YtmbhafgnmdfjhaaV
set_option linter.unusedVariables false
set_option linter.unusedSimpArgs false
structure St2 (w w' : World) (g g2 : Nat) (t : S27) (d : D27) (u : S27) (e : D27) : Prop where
  b : Below w.heap.size w w'
  k : Box27 w' g t d
  k2 : Box27 w' g2 u e
  r : R27 w' t d
  r2 : R27 w' u e
theorem St2.step {w w1 w2 : World} {g g2 : Nat} {t : S27} {d : D27} {u : S27} {e : D27} (h : St2 w w1 g g2 t d u e) (hb : Below w1.heap.size w1 w2) : St2 w w2 g g2 t d u e := ⟨below_step h.b hb, h.k.below hb, h.k2.below hb, h.r.below hb, h.r2.below hb⟩
theorem St2.all {w w' : World} {g g2 : Nat} {t : S27} {d : D27} {u : S27} {e : D27} (h : St2 w w' g g2 t d u e) : St2 w w' g g2 t d u e ∧ w'.cell? ⟨g, 0, none⟩ = some (.int .i64 t.f0) ∧ w'.cell? ⟨g, 1, none⟩ = some (.slice d.A1 t.f1.length d.c1) ∧ w'.cell? ⟨g, 2, none⟩ = some (.slice d.A2 t.f2.length d.c2) ∧ w'.cell? ⟨g, 3, none⟩ = some (.slice d.A3 t.f3.length d.c3) ∧ w'.cell? ⟨g, 4, none⟩ = some (.bool t.f4) ∧ w'.cell? ⟨g, 5, none⟩ = some (.int .i64 t.f5) ∧ w'.cell? ⟨g, 6, none⟩ = some (.slice d.A6 t.f6.length d.c6) ∧ w'.cell? ⟨g, 7, none⟩ = some (.slice d.A7 t.f7.length d.c7) ∧ w'.cell? ⟨g, 8, none⟩ = some (.slice d.A8 t.f8.length d.c8) ∧ w'.cell? ⟨g, 9, none⟩ = some (.slice d.A9 t.f9.length d.c9) ∧ w'.cell? ⟨g, 10, none⟩ = some (.slice d.A10 t.f10.length d.c10) ∧ w'.cell? ⟨g2, 0, none⟩ = some (.int .i64 u.f0) ∧ w'.cell? ⟨g2, 1, none⟩ = some (.slice e.A1 u.f1.length e.c1) ∧ w'.cell? ⟨g2, 2, none⟩ = some (.slice e.A2 u.f2.length e.c2) ∧ w'.cell? ⟨g2, 3, none⟩ = some (.slice e.A3 u.f3.length e.c3) ∧ w'.cell? ⟨g2, 4, none⟩ = some (.bool u.f4) ∧ w'.cell? ⟨g2, 5, none⟩ = some (.int .i64 u.f5) ∧ w'.cell? ⟨g2, 6, none⟩ = some (.slice e.A6 u.f6.length e.c6) ∧ w'.cell? ⟨g2, 7, none⟩ = some (.slice e.A7 u.f7.length e.c7) ∧ w'.cell? ⟨g2, 8, none⟩ = some (.slice e.A8 u.f8.length e.c8) ∧ w'.cell? ⟨g2, 9, none⟩ = some (.slice e.A9 u.f9.length e.c9) ∧ w'.cell? ⟨g2, 10, none⟩ = some (.slice e.A10 u.f10.length e.c10) := by
  obtain ⟨q0, q1, q2, q3, q4, q5, q6, q7, q8, q9, q10⟩ := h.k.cells
  obtain ⟨r0, r1, r2, r3, r4, r5, r6, r7, r8, r9, r10⟩ := h.k2.cells
  exact ⟨h, q0, q1, q2, q3, q4, q5, q6, q7, q8, q9, q10, r0, r1, r2, r3, r4, r5, r6, r7, r8, r9, r10⟩
theorem lens_of {t : S27} (h : smallB t = true) : Lens t ∧ t.f6.length ≤ 1000 ∧ ∀ x ∈ t.f10, x.length ≤ 1000 := by
  unfold smallB at h
  simp only [Bool.and_eq_true, decide_eq_true_eq, Bool.not_eq_true'] at h
  obtain ⟨h0, h1⟩ := h
  refine ⟨⟨by omega, by omega, by omega, by omega, by omega, by omega, by omega⟩, by omega, fun x hx => ?_⟩
  rw [List.any_eq_false] at h0
  have := h0 x hx
  simp only [decide_eq_true_eq] at this
  omega
set_option maxRecDepth 100000 in
set_option maxHeartbeats 4000000 in
theorem checks_small {w : World} (t : S27) (d : D27) (u : S27) (e : D27) (hr : R27 w t d) (hs : R27 w u e) (c0 T1 : Int) (sb : Bool)
    (hsm : smallB t = true → smallB u = true →
      (∀ w1, R27 w1 t d → Calls Try.prog 12 #[.agg (cells27 t d)] w1 fun e w' => e = .returned (.int .i64 c0) ∧ Below w1.heap.size w1 w') ∧
      (∀ w1, R27 w1 t d → Calls Try.prog 13 #[.agg (cells27 t d)] w1 fun e w' => e = .returned (.int .i64 c0) ∧ Below w1.heap.size w1 w') ∧
      (∀ w1, R27 w1 t d → Calls Try.prog 14 #[.agg (cells27 t d)] w1 fun e w' => e = .returned (.int .i64 T1) ∧ Below w1.heap.size w1 w') ∧
      (∀ w1, R27 w1 t d → Calls Try.prog 15 #[.agg (cells27 t d)] w1 fun e w' => e = .returned (.int .i64 T1) ∧ Below w1.heap.size w1 w') ∧
      (∀ w1, R27 w1 t d → R27 w1 u e → Calls Try.prog 16 #[.agg (cells27 t d), .agg (cells27 u e)] w1 fun e w' => e = .returned (.bool sb) ∧ Below w1.heap.size w1 w') ∧
      (∀ w1, R27 w1 t d → R27 w1 u e → Calls Try.prog 17 #[.agg (cells27 t d), .agg (cells27 u e)] w1 fun e w' => e = .returned (.bool sb) ∧ Below w1.heap.size w1 w')) :
    Calls Try.prog 3 #[.agg (cells27 t d), .agg (cells27 u e)] w fun e w' => e = .returned (.bool true) ∧ Below w.heap.size w w' := by
  have HR := Aside0.mk hr
  have HS := Aside0.mk hs
  have HSM := Aside0.mk hsm
  clear hr hs hsm
  have hu := Try.underlying27
  have HT := Aside0.mk (fun (w1 : World) (h : R27 w1 t d) => small_calls t d h)
  have HU := Aside0.mk (fun (w1 : World) (h : R27 w1 u e) => small_calls u e h)
  unfold cells27
  go_enter Try.func3, Try.ntmps3
  obtain ⟨w1, hw1⟩ : ∃ wz, w.alloc (.cells (cells27 t d) 27) = wz := ⟨_, rfl⟩
  obtain ⟨w2, hw2⟩ : ∃ wz, w1.alloc (.cells (cells27 u e) 27) = wz := ⟨_, rfl⟩
  obtain ⟨g, hg⟩ : ∃ rz, w.heap.size = rz := ⟨_, rfl⟩
  obtain ⟨g2, hg2⟩ : ∃ rz, w1.heap.size = rz := ⟨_, rfl⟩
  have hb1 : Below w.heap.size w w1 := by rw [← hw1]; exact below_alloc (Below.refl _ _) _
  have hb2 : Below w1.heap.size w1 w2 := by rw [← hw2]; exact below_alloc (Below.refl _ _) _
  have S1 : Aside0 (St2 w w2 g g2 t d u e) := ⟨below_step hb1 hb2, Box27.below (by rw [← hw1, ← hg]; exact blk_new w _) hb2, by rw [← hw2, ← hg2]; exact blk_new w1 _, HR.out.below (below_step hb1 hb2), HS.out.below (below_step hb1 hb2)⟩
  clear hb1 hb2
  unfold cells27 at hw1 hw2
  go_upto_region 1 with fail
  clear hw1 hw2 hg hg2
  obtain ⟨-, q0, q1, q2, q3, q4, q5, q6, q7, q8, q9, q10, r0, r1, r2, r3, r4, r5, r6, r7, r8, r9, r10⟩ := S1.out.all
  go_wp2_with fail
  have HC := HT.out w2 S1.out.r
  unfold cells27 at HC
  refine HC.mono ?_
  rintro ee w3 ⟨rfl, hb⟩
  have S3 := Aside0.mk (S1.out.step hb)
  clear hb HC S1 q0 q1 q2 q3 q4 q5 q6 q7 q8 q9 q10 r0 r1 r2 r3 r4 r5 r6 r7 r8 r9 r10
  cases hst : smallB t with
  | false =>
    clear hst
    go_wp2_with fail
    go_ret
    exact ⟨rfl, S3.out.b⟩
  | true =>
  have HST := Aside0.mk hst
  clear hst
  obtain ⟨-, q0, q1, q2, q3, q4, q5, q6, q7, q8, q9, q10, r0, r1, r2, r3, r4, r5, r6, r7, r8, r9, r10⟩ := S3.out.all
  go_wp2_with fail
  have HC := HU.out w3 S3.out.r2
  unfold cells27 at HC
  refine HC.mono ?_
  rintro ee w4 ⟨rfl, hb⟩
  have S4 := Aside0.mk (S3.out.step hb)
  clear hb HC S3 q0 q1 q2 q3 q4 q5 q6 q7 q8 q9 q10 r0 r1 r2 r3 r4 r5 r6 r7 r8 r9 r10
  cases hst : smallB u with
  | false =>
    clear hst
    go_wp2_with fail
    go_ret
    exact ⟨rfl, S4.out.b⟩
  | true =>
  obtain ⟨h1, h2, h3, h4, h5, h6⟩ := HSM.out HST.out hst
  unfold cells27 at h1 h2 h3 h4 h5 h6
  have H1 := Aside0.mk h1
  have H2 := Aside0.mk h2
  have H3 := Aside0.mk h3
  have H4 := Aside0.mk h4
  have H5 := Aside0.mk h5
  have H6 := Aside0.mk h6
  clear hst h1 h2 h3 h4 h5 h6 HT HU HSM
  go_wp2_with fail
  have z1 : (c0 == c0) = true := by simp
  have z2 : (T1 == T1) = true := by simp
  have z3 : (sb == sb) = true := by simp
  have KEEP := Aside0.mk (S4.out.step (below_drew (Below.refl _ w4))).all
  go_region_held3 (fun w' => St2 w w' g g2 t d u e ∧ w'.cell? ⟨g, 0, none⟩ = some (.int .i64 t.f0) ∧ w'.cell? ⟨g, 1, none⟩ = some (.slice d.A1 t.f1.length d.c1) ∧ w'.cell? ⟨g, 2, none⟩ = some (.slice d.A2 t.f2.length d.c2) ∧ w'.cell? ⟨g, 3, none⟩ = some (.slice d.A3 t.f3.length d.c3) ∧ w'.cell? ⟨g, 4, none⟩ = some (.bool t.f4) ∧ w'.cell? ⟨g, 5, none⟩ = some (.int .i64 t.f5) ∧ w'.cell? ⟨g, 6, none⟩ = some (.slice d.A6 t.f6.length d.c6) ∧ w'.cell? ⟨g, 7, none⟩ = some (.slice d.A7 t.f7.length d.c7) ∧ w'.cell? ⟨g, 8, none⟩ = some (.slice d.A8 t.f8.length d.c8) ∧ w'.cell? ⟨g, 9, none⟩ = some (.slice d.A9 t.f9.length d.c9) ∧ w'.cell? ⟨g, 10, none⟩ = some (.slice d.A10 t.f10.length d.c10) ∧ w'.cell? ⟨g2, 0, none⟩ = some (.int .i64 u.f0) ∧ w'.cell? ⟨g2, 1, none⟩ = some (.slice e.A1 u.f1.length e.c1) ∧ w'.cell? ⟨g2, 2, none⟩ = some (.slice e.A2 u.f2.length e.c2) ∧ w'.cell? ⟨g2, 3, none⟩ = some (.slice e.A3 u.f3.length e.c3) ∧ w'.cell? ⟨g2, 4, none⟩ = some (.bool u.f4) ∧ w'.cell? ⟨g2, 5, none⟩ = some (.int .i64 u.f5) ∧ w'.cell? ⟨g2, 6, none⟩ = some (.slice e.A6 u.f6.length e.c6) ∧ w'.cell? ⟨g2, 7, none⟩ = some (.slice e.A7 u.f7.length e.c7) ∧ w'.cell? ⟨g2, 8, none⟩ = some (.slice e.A8 u.f8.length e.c8) ∧ w'.cell? ⟨g2, 9, none⟩ = some (.slice e.A9 u.f9.length e.c9) ∧ w'.cell? ⟨g2, 10, none⟩ = some (.slice e.A10 u.f10.length e.c10)) (first | exact KEEP.out | go_keep) (first
    | (go_at_call 12; with_reducible refine (H1.out _ ((show St2 w _ g g2 t d u e ∧ _ from by assumption).1).r).mono ?_; rintro ee wq ⟨rfl, hb⟩; have KEEP := Aside0.mk (((show St2 w _ g g2 t d u e ∧ _ from by assumption).1).step hb).all; clear hb)
    | (go_at_call 13; with_reducible refine (H2.out _ ((show St2 w _ g g2 t d u e ∧ _ from by assumption).1).r).mono ?_; rintro ee wq ⟨rfl, hb⟩; have KEEP := Aside0.mk (((show St2 w _ g g2 t d u e ∧ _ from by assumption).1).step hb).all; clear hb)
    | (go_at_call 14; with_reducible refine (H3.out _ ((show St2 w _ g g2 t d u e ∧ _ from by assumption).1).r).mono ?_; rintro ee wq ⟨rfl, hb⟩; have KEEP := Aside0.mk (((show St2 w _ g g2 t d u e ∧ _ from by assumption).1).step hb).all; clear hb)
    | (go_at_call 15; with_reducible refine (H4.out _ ((show St2 w _ g g2 t d u e ∧ _ from by assumption).1).r).mono ?_; rintro ee wq ⟨rfl, hb⟩; have KEEP := Aside0.mk (((show St2 w _ g g2 t d u e ∧ _ from by assumption).1).step hb).all; clear hb)
    | (go_at_call 16; with_reducible refine (H5.out _ ((show St2 w _ g g2 t d u e ∧ _ from by assumption).1).r ((show St2 w _ g g2 t d u e ∧ _ from by assumption).1).r2).mono ?_; rintro ee wq ⟨rfl, hb⟩; have KEEP := Aside0.mk (((show St2 w _ g g2 t d u e ∧ _ from by assumption).1).step hb).all; clear hb)
    | (go_at_call 17; with_reducible refine (H6.out _ ((show St2 w _ g g2 t d u e ∧ _ from by assumption).1).r ((show St2 w _ g g2 t d u e ∧ _ from by assumption).1).r2).mono ?_; rintro ee wq ⟨rfl, hb⟩; have KEEP := Aside0.mk (((show St2 w _ g g2 t d u e ∧ _ from by assumption).1).step hb).all; clear hb)
    | (go_at_call 18; with_reducible refine awake_calls.mono ?_; rintro ee wq ⟨rfl, hb⟩; have KEEP := Aside0.mk (((show St2 w _ g g2 t d u e ∧ _ from by assumption).1).step hb).all; clear hb))
  have SF := Aside0.mk (show St2 w _ g g2 t d u e ∧ _ from by assumption).1
  clear KEEP
  go_wp2_with fail
  go_ret
  exact ⟨rfl, SF.out.b⟩
theorem tot_full2 : ∀ (l : List S83), totG 401 l = 401
  | [] => rfl
  | r :: t => by
    have e : mn (wrap64 (401 + mx 0 (mn r.f0 401))) 401 = 401 := by rw [mn_eq, mx_eq, mn_eq]; unfold wrap64; omega
    rw [totG, e]; exact tot_full2 t
theorem tot_any : ∀ (l : List S83) (x : Int), 0 ≤ x → x ≤ 400 → cntG x l = totG x l
  | [], x, _, _ => rfl
  | r :: t, x, h0, h1 => by
    have ew : wrap64 (400 - x) = 400 - x := by unfold wrap64; omega
    rw [totG, cntG]
    by_cases hp : r.f0 > 0
    · rw [if_pos hp]
      by_cases hc : x + r.f0 ≤ 400
      · have e : mn (wrap64 (x + mx 0 (mn r.f0 401))) 401 = x + r.f0 := by rw [mn_eq, mx_eq, mn_eq]; unfold wrap64; omega
        have e2 : wrap64 (x + r.f0) = x + r.f0 := by unfold wrap64; omega
        rw [if_neg (by omega), e, e2]
        exact tot_any t _ (by omega) hc
      · have e : mn (wrap64 (x + mx 0 (mn r.f0 401))) 401 = 401 := by rw [mn_eq, mx_eq, mn_eq]; unfold wrap64; omega
        rw [if_pos (by omega), e, tot_full2]
    · have e : mn (wrap64 (x + mx 0 (mn r.f0 401))) 401 = x := by rw [mn_eq, mx_eq, mn_eq]; unfold wrap64; omega
      rw [if_neg hp, e]
      exact tot_any t x h0 h1
theorem and_turn (a b c d e f g h i j k : Bool) : (a && (b && (c && (d && (e && (f && (g && (h && (i && (j && k)))))))))) = (a && (d && (e && (f && (b && (c && (g && (h && (i && (j && k)))))))))) := by
  cases a <;> cases b <;> cases c <;> cases d <;> cases e <;> cases f <;> rfl
def dioramalaw09_TableChecks.f (a0_0 : Int) (l0_1 : List S83) (l0_2 : List S83) (l0_3 : List Int) (a0_4 : Bool) (a0_5 : Int) (l0_6 : List Int) (l0_7 : List S86) (l0_8 : List Int) (l0_9 : List S83) (l0_10 : List (List Int)) (a1_0 : Int) (l1_1 : List S83) (l1_2 : List S83) (l1_3 : List Int) (a1_4 : Bool) (a1_5 : Int) (l1_6 : List Int) (l1_7 : List S86) (l1_8 : List Int) (l1_9 : List S83) (l1_10 : List (List Int)) : Option Bool := some true
theorem dioramalaw09_TableChecks.calls (a0_0 : Int) (A0_1 : Option Addr) (c0_1 : Nat) (l0_1 : List S83) (A0_2 : Option Addr) (c0_2 : Nat) (l0_2 : List S83) (A0_3 : Option Addr) (c0_3 : Nat) (l0_3 : List Int) (a0_4 : Bool) (a0_5 : Int) (A0_6 : Option Addr) (c0_6 : Nat) (l0_6 : List Int) (A0_7 : Option Addr) (c0_7 : Nat) (l0_7 : List S86) (A0_8 : Option Addr) (c0_8 : Nat) (l0_8 : List Int) (A0_9 : Option Addr) (c0_9 : Nat) (l0_9 : List S83) (A0_10 : Option Addr) (c0_10 : Nat) (l0_10 : List (List Int)) (a1_0 : Int) (A1_1 : Option Addr) (c1_1 : Nat) (l1_1 : List S83) (A1_2 : Option Addr) (c1_2 : Nat) (l1_2 : List S83) (A1_3 : Option Addr) (c1_3 : Nat) (l1_3 : List Int) (a1_4 : Bool) (a1_5 : Int) (A1_6 : Option Addr) (c1_6 : Nat) (l1_6 : List Int) (A1_7 : Option Addr) (c1_7 : Nat) (l1_7 : List S86) (A1_8 : Option Addr) (c1_8 : Nat) (l1_8 : List Int) (A1_9 : Option Addr) (c1_9 : Nat) (l1_9 : List S83) (A1_10 : Option Addr) (c1_10 : Nat) (l1_10 : List (List Int)) (r : Bool) (w : World) (hr0_1 : Kd.C k83 w A0_1 l0_1.length l0_1) (hc0_1 : l0_1.length ≤ c0_1) (hr0_2 : Kd.C k83 w A0_2 l0_2.length l0_2) (hc0_2 : l0_2.length ≤ c0_2) (hr0_3 : Kd.C (Kd.int .i64) w A0_3 l0_3.length l0_3) (hc0_3 : l0_3.length ≤ c0_3) (hr0_6 : Kd.C (Kd.int .i64) w A0_6 l0_6.length l0_6) (hc0_6 : l0_6.length ≤ c0_6) (hr0_7 : Kd.C k86 w A0_7 l0_7.length l0_7) (hc0_7 : l0_7.length ≤ c0_7) (hr0_8 : Kd.C (Kd.int .i64) w A0_8 l0_8.length l0_8) (hc0_8 : l0_8.length ≤ c0_8) (hr0_9 : Kd.C k83 w A0_9 l0_9.length l0_9) (hc0_9 : l0_9.length ≤ c0_9) (hr0_10 : Kd.C (Kd.slice 3 (Kd.int .i64)) w A0_10 l0_10.length l0_10) (hc0_10 : l0_10.length ≤ c0_10) (hr1_1 : Kd.C k83 w A1_1 l1_1.length l1_1) (hc1_1 : l1_1.length ≤ c1_1) (hr1_2 : Kd.C k83 w A1_2 l1_2.length l1_2) (hc1_2 : l1_2.length ≤ c1_2) (hr1_3 : Kd.C (Kd.int .i64) w A1_3 l1_3.length l1_3) (hc1_3 : l1_3.length ≤ c1_3) (hr1_6 : Kd.C (Kd.int .i64) w A1_6 l1_6.length l1_6) (hc1_6 : l1_6.length ≤ c1_6) (hr1_7 : Kd.C k86 w A1_7 l1_7.length l1_7) (hc1_7 : l1_7.length ≤ c1_7) (hr1_8 : Kd.C (Kd.int .i64) w A1_8 l1_8.length l1_8) (hc1_8 : l1_8.length ≤ c1_8) (hr1_9 : Kd.C k83 w A1_9 l1_9.length l1_9) (hc1_9 : l1_9.length ≤ c1_9) (hr1_10 : Kd.C (Kd.slice 3 (Kd.int .i64)) w A1_10 l1_10.length l1_10) (hc1_10 : l1_10.length ≤ c1_10) (h : dioramalaw09_TableChecks.f a0_0 l0_1 l0_2 l0_3 a0_4 a0_5 l0_6 l0_7 l0_8 l0_9 l0_10 a1_0 l1_1 l1_2 l1_3 a1_4 a1_5 l1_6 l1_7 l1_8 l1_9 l1_10 = some r) :
    Calls Try.prog 3 #[.agg #[.int .i64 a0_0, .slice A0_1 l0_1.length c0_1, .slice A0_2 l0_2.length c0_2, .slice A0_3 l0_3.length c0_3, .bool a0_4, .int .i64 a0_5, .slice A0_6 l0_6.length c0_6, .slice A0_7 l0_7.length c0_7, .slice A0_8 l0_8.length c0_8, .slice A0_9 l0_9.length c0_9, .slice A0_10 l0_10.length c0_10], .agg #[.int .i64 a1_0, .slice A1_1 l1_1.length c1_1, .slice A1_2 l1_2.length c1_2, .slice A1_3 l1_3.length c1_3, .bool a1_4, .int .i64 a1_5, .slice A1_6 l1_6.length c1_6, .slice A1_7 l1_7.length c1_7, .slice A1_8 l1_8.length c1_8, .slice A1_9 l1_9.length c1_9, .slice A1_10 l1_10.length c1_10]] w fun e w' => e = .returned (.bool r) ∧ Below w.heap.size w w' := by
  cases h
  obtain ⟨t, ht⟩ : ∃ z, (⟨a0_0, l0_1, l0_2, l0_3, a0_4, a0_5, l0_6, l0_7, l0_8, l0_9, l0_10⟩ : S27) = z := ⟨_, rfl⟩
  obtain ⟨d, hd⟩ : ∃ z, (⟨A0_1, c0_1, A0_2, c0_2, A0_3, c0_3, A0_6, c0_6, A0_7, c0_7, A0_8, c0_8, A0_9, c0_9, A0_10, c0_10⟩ : D27) = z := ⟨_, rfl⟩
  obtain ⟨u, hu⟩ : ∃ z, (⟨a1_0, l1_1, l1_2, l1_3, a1_4, a1_5, l1_6, l1_7, l1_8, l1_9, l1_10⟩ : S27) = z := ⟨_, rfl⟩
  obtain ⟨e, he⟩ : ∃ z, (⟨A1_1, c1_1, A1_2, c1_2, A1_3, c1_3, A1_6, c1_6, A1_7, c1_7, A1_8, c1_8, A1_9, c1_9, A1_10, c1_10⟩ : D27) = z := ⟨_, rfl⟩
  have HRt : R27 w t d := by rw [← ht, ← hd]; exact ⟨hr0_1, hr0_2, hr0_3, hr0_6, hr0_7, hr0_8, hr0_9, hr0_10, hc0_1, hc0_2, hc0_3, hc0_6, hc0_7, hc0_8, hc0_9, hc0_10⟩
  have HRu : R27 w u e := by rw [← hu, ← he]; exact ⟨hr1_1, hr1_2, hr1_3, hr1_6, hr1_7, hr1_8, hr1_9, hr1_10, hc1_1, hc1_2, hc1_3, hc1_6, hc1_7, hc1_8, hc1_9, hc1_10⟩
  have HG : Calls Try.prog 3 #[.agg (cells27 t d), .agg (cells27 u e)] w fun e w' => e = .returned (.bool true) ∧ Below w.heap.size w w' := by
    clear ht hd hu he
    by_cases hsm : smallB t = true
    · obtain ⟨L, l6, hx⟩ := lens_of hsm
      obtain ⟨K, ps, hv, hK⟩ := both_ev t L
      obtain ⟨e1, f1⟩ := peqr_ev (l := t.f1) (m := u.f1) L.l1
      obtain ⟨e2, f2⟩ := peqr_ev (l := t.f2) (m := u.f2) L.l2
      obtain ⟨e9, f9⟩ := peqr_ev (l := t.f9) (m := u.f9) L.l9
      obtain ⟨e7, f7⟩ := peqc_ev (l := t.f7) (m := u.f7) L.l7
      obtain ⟨e1', f1'⟩ := reqr_ev (l := t.f1) (m := u.f1) L.l1
      obtain ⟨e2', f2'⟩ := reqr_ev (l := t.f2) (m := u.f2) L.l2
      obtain ⟨e9', f9'⟩ := reqr_ev (l := t.f9) (m := u.f9) L.l9
      obtain ⟨e7', f7'⟩ := reqc_ev (l := t.f7) (m := u.f7) L.l7
      obtain ⟨e3', f3'⟩ := Go.Proofs.Ytmbhafgnmdfjhaa.PureTI.eqi_ev (l := t.f3) (u := u.f3) (by have := L.l3; omega)
      obtain ⟨e6', f6'⟩ := Go.Proofs.Ytmbhafgnmdfjhaa.PureTI.eqi_ev (l := t.f6) (u := u.f6) (by omega)
      obtain ⟨e8', f8'⟩ := Go.Proofs.Ytmbhafgnmdfjhaa.PureTI.eqi_ev (l := t.f8) (u := u.f8) (by have := L.l8; omega)
      obtain ⟨ex, fx⟩ := eqrows_ev (l := t.f10) (m := u.f10) L.l10 hx
      obtain ⟨T1c, hT1c⟩ := total_ev (l := t.f1) (by have := L.l1; omega)
      obtain ⟨C1c, hC1c⟩ := counted_ev (l := t.f1) (by have := L.l1; omega)
      obtain ⟨k, hk⟩ : ∃ k, K + e1 + e2 + e9 + e7 + e1' + e2' + e9' + e7' + e3' + e6' + e8' + ex + T1c + C1c + 1001 = k := ⟨_, rfl⟩
      have B := hK k (by omega)
      have hsame := fun (w1 : World) (h1 : R27 w1 t d) (h2 : R27 w1 u e) => same_calls k t d u e h1 h2 _ (f1 k (by omega)) _ (f2 k (by omega)) _ (peqi_at L.l3 (by omega)) _ (peqi_at l6 (by omega)) _ (f7 k (by omega)) _ (peqi_at L.l8 (by omega)) _ (f9 k (by omega)) (fun x y hxm => peqi_at (hx x hxm) (by omega))
      have heqt := fun (w1 : World) (h1 : R27 w1 t d) (h2 : R27 w1 u e) => eqt_calls k t d u e h1 h2 _ (f1' k (by omega)) _ (f2' k (by omega)) _ (f3' k (by omega)) _ (f6' k (by omega)) _ (f7' k (by omega)) _ (f8' k (by omega)) _ (f9' k (by omega)) _ (fx k (by omega))
      have ht1 : table_Count.f k t.f0 t.f1 t.f2 t.f3 t.f4 t.f5 t.f6 t.f7 t.f8 t.f9 t.f10 = some (totG 0 t.f1) := by
        unfold table_Count.f; rw [show table_total.f k t.f1 = _ from hT1c k (by omega)]; rfl
      have hc1 : dioramaref09_Count.f k t.f0 t.f1 t.f2 t.f3 t.f4 t.f5 t.f6 t.f7 t.f8 t.f9 t.f10 = some (totG 0 t.f1) := by
        unfold dioramaref09_Count.f; rw [show dioramaref09_counted.f k t.f1 = _ from hC1c k (by omega), Option.bind_some, tot_any t.f1 0 (by omega) (by omega)]
      refine checks_small t d u e HRt HRu _ (totG 0 t.f1) _ (fun _ _ => ⟨fun w1 h1 => check_calls k t d h1 _ _ _ _ _ _ _ _ B.c, fun w1 h1 => ?_, fun w1 h1 => ?_, fun w1 h1 => ?_, hsame, fun w1 h1 h2 => ?_⟩)
      · rw [B.e]; exact rcheck_calls k t d h1 _ _ _ _ _ _ B.r
      · unfold cells27; exact table_Count.calls k t.f0 d.A1 d.c1 t.f1 d.A2 d.c2 t.f2 d.A3 d.c3 t.f3 t.f4 t.f5 d.A6 d.c6 t.f6 d.A7 d.c7 t.f7 d.A8 d.c8 t.f8 d.A9 d.c9 t.f9 d.A10 d.c10 t.f10 _ w1 h1.r1 h1.c1 h1.r2 h1.c2 h1.r3 h1.c3 h1.r6 h1.c6 h1.r7 h1.c7 h1.r8 h1.c8 h1.r9 h1.c9 h1.r10 h1.c10 ht1
      · unfold cells27; exact dioramaref09_Count.calls k t.f0 d.A1 d.c1 t.f1 d.A2 d.c2 t.f2 d.A3 d.c3 t.f3 t.f4 t.f5 d.A6 d.c6 t.f6 d.A7 d.c7 t.f7 d.A8 d.c8 t.f8 d.A9 d.c9 t.f9 d.A10 d.c10 t.f10 _ w1 h1.r1 h1.c1 h1.r2 h1.c2 h1.r3 h1.c3 h1.r6 h1.c6 h1.r7 h1.c7 h1.r8 h1.c8 h1.r9 h1.c9 h1.r10 h1.c10 hc1
      · have hq := heqt w1 h1 h2
        rw [show _ = _ from and_turn _ _ _ _ _ _ _ _ _ _ _] at hq
        exact hq
    · exact checks_small t d u e HRt HRu 0 0 true (fun h => absurd h hsm)
  rw [← ht, ← hd, ← hu, ← he] at HG
  exact HG
end Go.Proofs.Ytmbhafgnmdfjhaa.QTab
