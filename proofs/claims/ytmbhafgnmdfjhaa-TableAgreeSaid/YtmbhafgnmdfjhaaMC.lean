/- A lemma file: table.counts, walked. No condition. A lemma file: table.Check, walked. No condition. -/
import Derived.Test.YtmbhafgnmdfjhaaMT
import Derived.Deep.CutRange
import Derived.Test.YtmbhafgnmdfjhaaQTabx4
import Derived.Test.YtmbhafgnmdfjhaaQTabx8
import Derived.Deep.RegionHeld3
namespace Go.Proofs.Ytmbhafgnmdfjhaa.QTab
open Go.RowKit Go.Proofs.YtmbhafgnmdfjhaaW.PrintWords Go.Proofs.YtmbhafgnmdfjhaaW.PrintLast Go.Proofs.YtmbhafgnmdfjhaaW.PrintMore Go.Proofs.YtmbhafgnmdfjhaaV
set_option linter.unusedVariables false
set_option linter.unusedSimpArgs false
def bad1 (t : S27) (n T2 T9 : Int) : Bool := decide (0 < t.f2.length) && T2 != n || decide (0 < t.f9.length) && T9 != n || decide (0 < t.f10.length) && (t.f10.length : Int) != n
def bad2 (t : S27) (n : Int) : Bool := t.f5 == 0 && (t.f6.length : Int) != n || decide (0 < t.f5) && decide (0 < t.f6.length) || t.f4 && decide (0 < t.f3.length)
def syncsB (n : Int) : Int → List Int → Bool
  | _, [] => true
  | last, s :: l => decide (last < s) && decide (s ≤ n) && syncsB n s l
def chB (np : Int) : Nat → Int → List S86 → Bool
  | _, _, [] => true
  | i, p, c :: l => (if i = 0 then c.f0 == 1 else decide (p < c.f0)) && decide (c.f0 ≤ np) && chB np (i + 1) c.f0 l
def prevC (l : List S86) (i : Nat) : Int := if i = 0 then 0 else (rd_T86 l ((i - 1 : Nat) : Int)).f0
def capSum (ms : Nat → Int) : Nat → Int
  | 0 => 0
  | c + 1 => min (wrap64 (capSum ms c + ms c)) 401
def countsB (t : S27) (n T2 T9 : Int) (ms : Nat → Int) : Bool :=
  !(bad1 t n T2 T9) && (!(bad2 t n) && (syncsB n 0 t.f3 && (decide (0 < t.f7.length) == decide (0 < t.f8.length) && (chB t.f8.length 0 0 t.f7 && capSum ms t.f8.length == n))))
set_option maxRecDepth 100000 in
set_option maxHeartbeats 2000000 in
theorem counts_calls {w : World} (k : Nat) (t : S27) (d : D27) (hr : R27 w t d) (n T2 T9 : Int) (ms : Nat → Int) (h2 : table_total.f k t.f2 = some T2) (h9 : table_total.f k t.f9 = some T9)
    (hc : chB t.f8.length 0 0 t.f7 = true → decide (0 < t.f7.length) = decide (0 < t.f8.length) → ∀ c : Nat, c < t.f8.length → table_inChunk.f k t.f0 t.f1 t.f2 t.f3 t.f4 t.f5 t.f6 t.f7 t.f8 t.f9 t.f10 c = some (ms c)) :
    Calls Try.prog 45 #[.agg (cells27 t d), .int .i64 n] w fun e w' => e = .returned (.bool (countsB t n T2 T9 ms)) ∧ Below w.heap.size w w' := by
  have hu := Try.underlying27
  have hu86 := Try.underlying86
  have HR := Aside0.mk hr
  have HC := Aside0.mk hc
  have H2 := Aside0.mk h2
  have H9 := Aside0.mk h9
  clear hr hc h2 h9
  unfold cells27
  go_enter Try.func45, Try.ntmps45
  obtain ⟨w1, hw1⟩ : ∃ wz, w.alloc (.cells (cells27 t d) 27) = wz := ⟨_, rfl⟩
  obtain ⟨g, hg⟩ : ∃ rz, w.heap.size = rz := ⟨_, rfl⟩
  have B1 : Aside0 (Below w.heap.size w w1) := ⟨by rw [← hw1]; exact below_alloc (Below.refl _ _) _⟩
  have K1 : Aside0 (Box27 w1 g t d) := ⟨by rw [← hw1, ← hg]; exact blk_new w _⟩
  have GE : Aside0 (w.heap.size ≤ g) := ⟨by omega⟩
  unfold cells27 at hw1
  go_upto_region 1 with fail
  clear hw1 hg
  go_cut [48] from 12 to 48 (fun v48 w' => v48 = .bool (bad1 t n T2 T9) ∧ Aside0 (Below w.heap.size w w' ∧ Box27 w' g t d))
  case first =>
    obtain ⟨q0, q1, q2, q3, q4, q5, q6, q7, q8, q9, q10⟩ := K1.out.cells
    go_wp2_with (first
      | (go_at_call 54; with_reducible refine (table_total.calls k d.A2 d.c2 t.f2 T2 _ (HR.out.below B1.out).r2 HR.out.c2 H2.out).mono ?_; rintro e w2 ⟨rfl, hb⟩; have B1 := Aside0.mk (below_step B1.out hb); have K1 := Aside0.mk (K1.out.below hb); clear hb; obtain ⟨q0, q1, q2, q3, q4, q5, q6, q7, q8, q9, q10⟩ := K1.out.cells)
      | (go_at_call 54; with_reducible refine (table_total.calls k d.A9 d.c9 t.f9 T9 _ (HR.out.below B1.out).r9 HR.out.c9 H9.out).mono ?_; rintro e w2 ⟨rfl, hb⟩; have B1 := Aside0.mk (below_step B1.out hb); have K1 := Aside0.mk (K1.out.below hb); clear hb; obtain ⟨q0, q1, q2, q3, q4, q5, q6, q7, q8, q9, q10⟩ := K1.out.cells))

    all_goals (go_meet; case rel => exact ⟨by simp [bad1, *], ⟨B1.out, K1.out⟩⟩)
  case rest =>
  obtain ⟨rfl, h1⟩ := hcut
  have B2 := Aside0.mk h1.out.1
  have K2 := Aside0.mk h1.out.2
  clear h1 B1 K1
  generalize wc = w2 at B2 K2 ⊢
  cases hb1 : bad1 t n T2 T9 with
  | true =>
    have HB1 := Aside0.mk hb1
    clear hb1
    go_wp2_with fail
    go_ret
    exact ⟨by rw [countsB, HB1.out]; rfl, B2.out⟩
  | false =>
  have HB1 := Aside0.mk hb1
  clear hb1
  go_upto_region 3 with fail
  go_cut [0, 79] from 49 to 79 (fun v0 v79 w' => v79 = .bool (bad2 t n) ∧ Aside0 (Below w.heap.size w w' ∧ Box27 w' g t d))
  case first =>
    obtain ⟨q0, q1, q2, q3, q4, q5, q6, q7, q8, q9, q10⟩ := K2.out.cells
    go_wp2_with fail
    all_goals (go_meet; case rel => exact ⟨by first | (simp [bad2, *]; done) | (simp [bad2, *]; intros; omega) | (exfalso; have hq := List.length_pos_iff (l := t.f6); simp_all; done), ⟨B2.out, K2.out⟩⟩)
  case rest =>
  obtain ⟨rfl, h1⟩ := hcut
  have B3 := Aside0.mk h1.out.1
  have K3 := Aside0.mk h1.out.2
  clear h1 B2 K2
  generalize wc = w3 at B3 K3 ⊢
  cases hb1 : bad2 t n with
  | true =>
    have HB2 := Aside0.mk hb1
    clear hb1
    go_wp2_with fail
    go_ret
    exact ⟨by rw [countsB, HB1.out, HB2.out]; rfl, B3.out⟩
  | false =>
  have HB2 := Aside0.mk hb1
  clear hb1
  obtain ⟨q0, q1, q2, q3, q4, q5, q6, q7, q8, q9, q10⟩ := K3.out.cells
  go_wp2_with fail
  clear q0 q1 q2 q3 q4 q5 q6 q7 q8 q9 q10
  have SA3 := (HR.out.below B3.out).r3
  generalize d.A3 = A3 at SA3 ⊢
  have SAA := Aside0.mk SA3
  clear SA3
  go_loopg [5, 83] (t.f3.length + 1) (fun kq v5 v83 w' => ∃ (j : Nat) (last : Int), v5 = .int .i64 last ∧ v83 = .int .i64 (j : Int) ∧ Aside0 (kq = t.f3.length - j + 1) ∧ Aside0 (j ≤ t.f3.length ∧ syncsB n 0 t.f3 = syncsB n last (t.f3.drop j)) ∧ Aside0 (w' = w3))
  case atStart => exact ⟨0, 0, rfl, rfl, ⟨rfl⟩, ⟨⟨Nat.zero_le _, rfl⟩⟩, ⟨rfl⟩⟩
  case round =>
    obtain ⟨j, last, rfl, rfl, HQ, HI, HW⟩ := hrel
    obtain rfl := HW.out
    clear HW
    by_cases hj : j < t.f3.length
    · have hj1 : decide ((j : Int) < (t.f3.length : Int)) = true := decide_eq_true (by omega)
      have hj2 : decide (j < t.f3.length) = true := decide_eq_true hj
      have hj3 : (j < t.f3.length) = True := eq_true hj
      have HJ1 := Aside0.mk hj
      have e8 : wrap64 ((j : Int) + 1) = ((j + 1 : Nat) : Int) := by have := SAA.out.2.1; unfold wrap64; omega
      obtain ⟨ads, es, xs⟩ := Kd.at_int SAA.out (j : Int) (by omega) (by omega)
      cases es
      rw [Int.toNat_natCast] at xs
      have HSY : Aside0 (syncsB n 0 t.f3 = (decide (last < rd t.f3 j) && decide (rd t.f3 j ≤ n) && syncsB n (rd t.f3 j) (t.f3.drop (j + 1)))) := ⟨by rw [HI.out.2, List.drop_eq_getElem_cons hj, syncsB]; simp [rd, List.getD_eq_getElem?_getD, List.getElem?_eq_getElem hj]⟩
      generalize rd t.f3 j = s at xs HSY
      clear hj
      by_cases h1 : last < s
      · have h1a : decide (s ≤ last) = false := decide_eq_false (by omega)
        by_cases h2 : s ≤ n
        · have h2a : decide (n < s) = false := decide_eq_false (by omega)
          have HSZ : Aside0 (syncsB n 0 t.f3 = syncsB n s (t.f3.drop (j + 1))) := ⟨by rw [HSY.out, decide_eq_true h1, decide_eq_true h2]; rfl⟩
          clear h1 h2
          go_wp2_with fail
          go_roundg (t.f3.length - (j + 1) + 1)
          case measure => have := HQ.out; have := HJ1.out; omega
          case rel => exact ⟨j + 1, s, rfl, by first | rfl | rw [e8], ⟨rfl⟩, ⟨⟨HJ1.out, HSZ.out⟩⟩, ⟨rfl⟩⟩
        · have h2a : decide (n < s) = true := decide_eq_true (by omega)
          have HSZ : Aside0 (syncsB n 0 t.f3 = false) := ⟨by rw [HSY.out, decide_eq_false h2]; simp⟩
          clear h1 h2
          go_wp2_with fail
          go_ret
          exact ⟨by rw [countsB, HB1.out, HB2.out, HSZ.out]; rfl, B3.out⟩
      · have h1a : decide (s ≤ last) = true := decide_eq_true (by omega)
        have HSZ : Aside0 (syncsB n 0 t.f3 = false) := ⟨by rw [HSY.out, decide_eq_false h1]; simp⟩
        clear h1
        go_wp2_with fail
        go_ret
        exact ⟨by rw [countsB, HB1.out, HB2.out, HSZ.out]; rfl, B3.out⟩
    · have hj1 : decide ((j : Int) < (t.f3.length : Int)) = false := decide_eq_false (by omega)
      have hj2 : decide (j < t.f3.length) = false := decide_eq_false hj
      have hj3 : (j < t.f3.length) = False := eq_false hj
      have HSY : Aside0 (syncsB n 0 t.f3 = true) := ⟨by rw [HI.out.2, List.drop_of_length_le (by omega)]; rfl⟩
      clear hj HI HQ SAA
      obtain ⟨q0, q1, q2, q3, q4, q5, q6, q7, q8, q9, q10⟩ := K3.out.cells
      by_cases hE : decide (0 < t.f7.length) = decide (0 < t.f8.length)
      · have hE1 : (!(decide (0 < t.f7.length) == decide (0 < t.f8.length))) = false := by rw [hE]; simp
        have HE : Aside0 ((decide (0 < t.f7.length) == decide (0 < t.f8.length)) = true) := ⟨by rw [hE]; simp⟩
        have HEE := Aside0.mk hE
        clear hE
        go_wp2_with fail
        clear hE1 q0 q1 q2 q3 q4 q5 q6 q7 q8 q9 q10 hj1 hj2 hj3
        have SA7 := (HR.out.below B3.out).r7
        generalize hA7 : d.A7 = A7 at SA7 ⊢
        have HA7 := Aside0.mk hA7
        have SAA := Aside0.mk SA7
        clear SA7 hA7
        generalize wr = w4 at B3 K3 SAA ⊢
        go_loopg [109] (t.f7.length + 1) (fun kq v109 w' => ∃ (i : Nat), v109 = .int .i64 (i : Int) ∧ Aside0 (kq = t.f7.length - i + 1) ∧ Aside0 (i ≤ t.f7.length ∧ chB t.f8.length 0 0 t.f7 = chB t.f8.length i (prevC t.f7 i) (t.f7.drop i)) ∧ Aside0 (Below w.heap.size w w' ∧ Box27 w' g t d))
        case atStart => exact ⟨0, rfl, ⟨rfl⟩, ⟨⟨Nat.zero_le _, rfl⟩⟩, ⟨⟨B3.out, K3.out⟩⟩⟩
        case round =>
          obtain ⟨i, rfl, HQ, HI, HW⟩ := hrel
          by_cases hj : i < t.f7.length
          · have hj1 : decide ((i : Int) < (t.f7.length : Int)) = true := decide_eq_true (by omega)
            have hj2 : decide (i < t.f7.length) = true := decide_eq_true hj
            have hj3 : (i < t.f7.length) = True := eq_true hj
            have HJ1 := Aside0.mk hj
            have e8 : wrap64 ((i : Int) + 1) = ((i + 1 : Nat) : Int) := by have := SAA.out.2.1; unfold wrap64; omega
            obtain ⟨ads, es, x5, y5⟩ := at_T86 (HR.out.below HW.out.1).r7 (i : Int) (by omega) (by omega)
            rw [HA7.out] at es
            cases es
            rw [Int.toNat_natCast] at x5 y5
            obtain ⟨cc, hcc⟩ : ∃ z, rd_T86 t.f7 i = z := ⟨_, rfl⟩
            rw [hcc] at x5 y5
            have HCH : Aside0 (chB t.f8.length 0 0 t.f7 = ((if i = 0 then cc.f0 == 1 else decide (prevC t.f7 i < cc.f0)) && decide (cc.f0 ≤ (t.f8.length : Int)) && chB t.f8.length (i + 1) cc.f0 (t.f7.drop (i + 1)))) := ⟨by rw [HI.out.2, List.drop_eq_getElem_cons hj, chB, ← hcc]; simp [rd_T86, List.getD_eq_getElem?_getD, List.getElem?_eq_getElem hj]⟩
            have HPV : Aside0 (prevC t.f7 (i + 1) = cc.f0) := ⟨by rw [← hcc]; simp [prevC]⟩
            obtain ⟨w5, hw5⟩ : ∃ wz, wr.alloc (.cells #[.int .i64 cc.f0, .int .i64 cc.f1] 86) = wz := ⟨_, rfl⟩
            have hq5 : Below wr.heap.size wr w5 := by rw [← hw5]; exact below_alloc (Below.refl _ _) _
            have B5 : Aside0 (Below w.heap.size w w5 ∧ True) := ⟨⟨below_step HW.out.1 hq5, trivial⟩⟩
            have K5 := Aside0.mk (HW.out.2.below hq5)
            have L5 : w5.heap[wr.heap.size]? = some (.cells #[.int .i64 cc.f0, .int .i64 cc.f1] 86 (0, 0)) := by rw [← hw5]; exact blk_new wr _
            obtain ⟨l0, l1, l2, l3⟩ := bcells2 L5
            have q7 := K5.out.cells.2.2.2.2.2.2.2.1
            have q8 := K5.out.cells.2.2.2.2.2.2.2.2.1
            rw [HA7.out] at q7
            clear hcc hq5 L5
            by_cases hi0 : i = 0
            · have hz1 : ((i : Int) == 0) = true := beq_iff_eq.mpr (by omega)
              have hz2 : decide (0 < i) = false := decide_eq_false (by omega)
              have HI0 := Aside0.mk hi0
              clear hj hi0
              go_wp2_with fail
              by_cases hcA : cc.f0 = 1
              · have hok1 : (if i = 0 then cc.f0 == 1 else decide (prevC t.f7 i < cc.f0)) = true := by rw [if_pos HI0.out]; exact beq_iff_eq.mpr hcA
                have hcB : (cc.f0 != 1) = false := bne_eq_false_iff_eq.mpr hcA
                clear hcA
                by_cases hcD : cc.f0 ≤ (t.f8.length : Int)
                · have hok2 : decide (cc.f0 ≤ (t.f8.length : Int)) = true := decide_eq_true hcD
                  have hcE : decide ((t.f8.length : Int) < cc.f0) = false := decide_eq_false (by omega)
                  clear hcD
                  have HCF : Aside0 (chB t.f8.length 0 0 t.f7 = chB t.f8.length (i + 1) cc.f0 (t.f7.drop (i + 1))) := ⟨by rw [HCH.out, hok1, hok2]; rfl⟩
                  clear hok1 hok2
                  repeat (go_quiet (fail); go_wp2_with fail)
                  go_roundg (t.f7.length - (i + 1) + 1)
                  case measure => have := HQ.out; have := HJ1.out; omega
                  case rel => exact ⟨i + 1, by first | rfl | rw [e8], ⟨rfl⟩, ⟨⟨HJ1.out, by rw [HCF.out, HPV.out]⟩⟩, ⟨⟨pw_below_drewN B5.out.1 _, K5.out⟩⟩⟩
                · have hok2 : decide (cc.f0 ≤ (t.f8.length : Int)) = false := decide_eq_false hcD
                  have hcE : decide ((t.f8.length : Int) < cc.f0) = true := decide_eq_true (by omega)
                  clear hcD
                  have HCF : Aside0 (chB t.f8.length 0 0 t.f7 = false) := ⟨by rw [HCH.out, hok1, hok2]; simp⟩
                  clear hok1 hok2
                  repeat (go_quiet (fail); go_wp2_with fail)
                  go_ret
                  exact ⟨by rw [countsB, HB1.out, HB2.out, HSY.out, HE.out, HCF.out]; rfl, pw_below_drewN B5.out.1 _⟩
              · have hok1 : (if i = 0 then cc.f0 == 1 else decide (prevC t.f7 i < cc.f0)) = false := by rw [if_pos HI0.out]; exact beq_eq_false_iff_ne.mpr hcA
                have hcB : (cc.f0 != 1) = true := bne_iff_ne.mpr hcA
                clear hcA
                have HCF : Aside0 (chB t.f8.length 0 0 t.f7 = false) := ⟨by rw [HCH.out, hok1]; simp⟩
                clear hok1
                repeat (go_quiet (fail); go_wp2_with fail)
                go_ret
                exact ⟨by rw [countsB, HB1.out, HB2.out, HSY.out, HE.out, HCF.out]; rfl, pw_below_drewN B5.out.1 _⟩
            · have hz1 : ((i : Int) == 0) = false := beq_eq_false_iff_ne.mpr (by omega)
              have hz2 : decide (0 < i) = true := decide_eq_true (by omega)
              have hz3 : decide ((0 : Int) < (i : Int)) = true := decide_eq_true (by omega)
              obtain ⟨m, hm⟩ : ∃ m : Nat, (i : Int) - 1 = (m : Int) := ⟨i - 1, by omega⟩
              have hm1 : wrap64 ((i : Int) - 1) = (m : Int) := by have := SAA.out.2.1; unfold wrap64; omega
              have hm2 : IntKind.i64.wrap ((i : Int) - 1) = (m : Int) := by rw [IntKind.wrap_i64]; have := SAA.out.2.1; omega
              have hm3 : (m < t.f7.length) = True := eq_true (by omega)
              obtain ⟨ads', es', x6, y6⟩ := at_T86 (HR.out.below B5.out.1).r7 (m : Int) (by omega) (by omega)
              rw [HA7.out] at es'
              cases es'
              rw [Int.toNat_natCast] at x6 y6
              have hpv : prevC t.f7 i = (rd_T86 t.f7 m).f0 := by rw [prevC, if_neg hi0]; congr 2; omega
              obtain ⟨pv, hpv2⟩ : ∃ z, (rd_T86 t.f7 m).f0 = z := ⟨_, rfl⟩
              rw [hpv2] at x6 hpv
              have HI0 := Aside0.mk hi0
              have HPP := Aside0.mk hpv
              clear hj hi0 hm hpv hpv2 y6
              go_wp2_with fail
              by_cases hcA : pv < cc.f0
              · have hok1 : (if i = 0 then cc.f0 == 1 else decide (prevC t.f7 i < cc.f0)) = true := by rw [if_neg HI0.out, HPP.out]; exact decide_eq_true hcA
                have hcB : decide (cc.f0 ≤ pv) = false := decide_eq_false (by omega)
                clear hcA
                by_cases hcD : cc.f0 ≤ (t.f8.length : Int)
                · have hok2 : decide (cc.f0 ≤ (t.f8.length : Int)) = true := decide_eq_true hcD
                  have hcE : decide ((t.f8.length : Int) < cc.f0) = false := decide_eq_false (by omega)
                  clear hcD
                  have HCF : Aside0 (chB t.f8.length 0 0 t.f7 = chB t.f8.length (i + 1) cc.f0 (t.f7.drop (i + 1))) := ⟨by rw [HCH.out, hok1, hok2]; rfl⟩
                  clear hok1 hok2
                  repeat (go_quiet (fail); go_wp2_with fail)
                  go_roundg (t.f7.length - (i + 1) + 1)
                  case measure => have := HQ.out; have := HJ1.out; omega
                  case rel => exact ⟨i + 1, by first | rfl | rw [e8], ⟨rfl⟩, ⟨⟨HJ1.out, by rw [HCF.out, HPV.out]⟩⟩, ⟨⟨pw_below_drewN B5.out.1 _, K5.out⟩⟩⟩
                · have hok2 : decide (cc.f0 ≤ (t.f8.length : Int)) = false := decide_eq_false hcD
                  have hcE : decide ((t.f8.length : Int) < cc.f0) = true := decide_eq_true (by omega)
                  clear hcD
                  have HCF : Aside0 (chB t.f8.length 0 0 t.f7 = false) := ⟨by rw [HCH.out, hok1, hok2]; simp⟩
                  clear hok1 hok2
                  repeat (go_quiet (fail); go_wp2_with fail)
                  go_ret
                  exact ⟨by rw [countsB, HB1.out, HB2.out, HSY.out, HE.out, HCF.out]; rfl, pw_below_drewN B5.out.1 _⟩
              · have hok1 : (if i = 0 then cc.f0 == 1 else decide (prevC t.f7 i < cc.f0)) = false := by rw [if_neg HI0.out, HPP.out]; exact decide_eq_false hcA
                have hcB : decide (cc.f0 ≤ pv) = true := decide_eq_true (by omega)
                clear hcA
                have HCF : Aside0 (chB t.f8.length 0 0 t.f7 = false) := ⟨by rw [HCH.out, hok1]; simp⟩
                clear hok1
                repeat (go_quiet (fail); go_wp2_with fail)
                go_ret
                exact ⟨by rw [countsB, HB1.out, HB2.out, HSY.out, HE.out, HCF.out]; rfl, pw_below_drewN B5.out.1 _⟩
          · have hj1 : decide ((i : Int) < (t.f7.length : Int)) = false := decide_eq_false (by omega)
            have hj2 : decide (i < t.f7.length) = false := decide_eq_false hj
            have hj3 : (i < t.f7.length) = False := eq_false hj
            have HCF : Aside0 (chB t.f8.length 0 0 t.f7 = true) := ⟨by rw [HI.out.2, List.drop_of_length_le (by omega)]; rfl⟩
            have HMS := Aside0.mk (HC.out HCF.out HEE.out)
            have B6 := Aside0.mk HW.out.1
            have K6 := Aside0.mk HW.out.2
            clear hj HI HQ SAA HC HW
            obtain ⟨q0, q1, q2, q3, q4, q5, q6, q7, q8, q9, q10⟩ := K6.out.cells
            go_wp2_with fail
            clear q0 q1 q2 q3 q4 q5 q6 q7 q8 q9 q10 hj1 hj2 hj3
            generalize wr = w6 at B6 K6 ⊢
            go_loopg [10, 149] (t.f8.length + 1) (fun kq v10 v149 w' => ∃ (c : Nat), v10 = .int .i64 (capSum ms c) ∧ v149 = .int .i64 (c : Int) ∧ Aside0 (kq = t.f8.length - c + 1) ∧ Aside0 (c ≤ t.f8.length) ∧ Aside0 (Below w.heap.size w w' ∧ Box27 w' g t d))
            case atStart => exact ⟨0, rfl, rfl, ⟨rfl⟩, ⟨Nat.zero_le _⟩, ⟨⟨B6.out, K6.out⟩⟩⟩
            case round =>
              clear B6 K6
              obtain ⟨c, rfl, rfl, HQ, HI, HW⟩ := hrel
              by_cases hj : c < t.f8.length
              · have hj1 : decide ((c : Int) < (t.f8.length : Int)) = true := decide_eq_true (by omega)
                have hj2 : decide (c < t.f8.length) = true := decide_eq_true hj
                have hj3 : (c < t.f8.length) = True := eq_true hj
                have HJ1 := Aside0.mk hj
                have e8 : wrap64 ((c : Int) + 1) = ((c + 1 : Nat) : Int) := by have := HR.out.r8.2.1; unfold wrap64; omega
                have HMC := Aside0.mk (HMS.out c hj)
                have HCS : Aside0 (capSum ms (c + 1) = min (wrap64 (capSum ms c + ms c)) 401) := ⟨rfl⟩
                generalize ms c = mc at HMC HCS
                generalize capSum ms c = sc at HCS ⊢
                clear hj
                obtain ⟨q0, q1, q2, q3, q4, q5, q6, q7, q8, q9, q10⟩ := HW.out.2.cells
                go_wp2_with fail
                have RR := HR.out.below HW.out.1
                refine (table_inChunk.calls k t.f0 d.A1 d.c1 t.f1 d.A2 d.c2 t.f2 d.A3 d.c3 t.f3 t.f4 t.f5 d.A6 d.c6 t.f6 d.A7 d.c7 t.f7 d.A8 d.c8 t.f8 d.A9 d.c9 t.f9 d.A10 d.c10 t.f10 (c : Int) mc wr RR.r1 RR.c1 RR.r2 RR.c2 RR.r3 RR.c3 RR.r6 RR.c6 RR.r7 RR.c7 RR.r8 RR.c8 RR.r9 RR.c9 RR.r10 RR.c10 HMC.out).mono ?_
                rintro e w8 ⟨rfl, hb⟩
                have B8 := Aside0.mk (below_step HW.out.1 hb)
                have K8 := Aside0.mk (HW.out.2.below hb)
                clear hb RR q0 q1 q2 q3 q4 q5 q6 q7 q8 q9 q10
                go_wp2_with fail
                go_roundg (t.f8.length - (c + 1) + 1)
                case measure => have := HQ.out; have := HJ1.out; omega
                case rel => exact ⟨c + 1, by first | (rw [HCS.out]; done) | (rw [HCS.out]; simp; done), by first | rfl | rw [e8], ⟨rfl⟩, ⟨HJ1.out⟩, ⟨⟨B8.out, K8.out⟩⟩⟩
              · have hj1 : decide ((c : Int) < (t.f8.length : Int)) = false := decide_eq_false (by omega)
                have hj2 : decide (c < t.f8.length) = false := decide_eq_false hj
                have hj3 : (c < t.f8.length) = False := eq_false hj
                have hce : c = t.f8.length := by have := HI.out; omega
                have HCE := Aside0.mk hce
                clear hj hce
                go_wp2_with fail
                go_ret
                exact ⟨by rw [countsB, HB1.out, HB2.out, HSY.out, HE.out, HCF.out, ← HCE.out]; first | done | rfl | (simp; done), HW.out.1⟩
      · have hE1 : (!(decide (0 < t.f7.length) == decide (0 < t.f8.length))) = true := by simp [hE]
        have HE : Aside0 ((decide (0 < t.f7.length) == decide (0 < t.f8.length)) = false) := ⟨by simp [hE]⟩
        clear hE
        go_wp2_with fail
        go_ret
        exact ⟨by rw [countsB, HB1.out, HB2.out, HSY.out, HE.out]; rfl, B3.out⟩
end Go.Proofs.Ytmbhafgnmdfjhaa.QTab
namespace Go.Proofs.Ytmbhafgnmdfjhaa.QTab
open Go.RowKit Go.Proofs.YtmbhafgnmdfjhaaW.PrintWords Go.Proofs.YtmbhafgnmdfjhaaW.PrintLast Go.Proofs.YtmbhafgnmdfjhaaW.PrintMore Go.Proofs.YtmbhafgnmdfjhaaV
set_option linter.unusedVariables false
set_option linter.unusedSimpArgs false
def rgB (t : S27) : Bool := rangesB t.f0 t.f1 t.f2 t.f3 t.f4 t.f5 t.f6 t.f7 t.f8 t.f9 t.f10
def inT (x : Int) : Bool := decide ((-1099511627776 : Int) ≤ x) && decide (x ≤ 1099511627776)
def offF (offs : List Int) (i : Nat) : Int := if 0 < offs.length then rd offs i else 0
def timesB (offs : List Int) : Nat → Int → List Int → Bool
  | _, _, [] => true
  | i, dts, x :: l => inT dts && inT (wrap64 (dts + offF offs i)) && timesB offs (i + 1) (wrap64 (dts + x)) l
def dpB (i : Int) : Nat → Int → List Int → Bool
  | _, _, [] => true
  | k, p, x :: l => (decide ((1 : Int) ≤ x) && decide (x ≤ i)) && (decide (k = 0) || decide (x < p)) && dpB i (k + 1) x l
def prevI (l : List Int) (i : Nat) : Int := if i = 0 then 0 else rd l ((i - 1 : Nat) : Int)
def badD (al f : Bool) (l : List Int) : Bool := decide (4 < l.length) || (al || f) && decide (0 < l.length)
def depsB (al : Bool) (fnd : Nat → Bool) : Nat → List (List Int) → Bool
  | _, [] => true
  | i, l :: r => !(badD al (fnd i) l) && dpB i 0 0 l && depsB al fnd (i + 1) r
def checkF (t : S27) (T1 T2 T9 : Int) (ms : Nat → Int) (times offs : List Int) (fnd : Nat → Bool) : Int :=
  if rgB t = false then 1 else if decide (400 < T1) = true then 2 else if countsB t T1 T2 T9 ms = false then 90
  else if (times.take (T1 - 1).toNat).any (fun x => x == 0) = true then 31 else if timesB offs 0 t.f0 times = false then 1
  else if depsB t.f4 fnd 0 t.f10 = false then 32 else 0
structure ChkOk (k : Nat) (t : S27) (T1 T2 T9 : Int) (ms : Nat → Int) (times offs : List Int) (pos : Nat → Int) (fnd : Nat → Bool) : Prop where
  t1 : rgB t = true → table_Count.f k t.f0 t.f1 t.f2 t.f3 t.f4 t.f5 t.f6 t.f7 t.f8 t.f9 t.f10 = some T1
  t2 : rgB t = true → table_total.f k t.f2 = some T2
  t9 : rgB t = true → table_total.f k t.f9 = some T9
  hc : chB t.f8.length 0 0 t.f7 = true → decide (0 < t.f7.length) = decide (0 < t.f8.length) → ∀ c : Nat, c < t.f8.length → table_inChunk.f k t.f0 t.f1 t.f2 t.f3 t.f4 t.f5 t.f6 t.f7 t.f8 t.f9 t.f10 c = some (ms c)
  v1 : rgB t = true → ¬ 400 < T1 → countsB t T1 T2 T9 ms = true → table_values.f k t.f1 = some times ∧ (times.length : Int) = T1
  v2 : rgB t = true → ¬ 400 < T1 → countsB t T1 T2 T9 ms = true → table_values.f k t.f2 = some offs ∧ (0 < offs.length → times.length ≤ offs.length)
  b : rgB t = true → countsB t T1 T2 T9 ms = true → ∀ i : Nat, i < t.f10.length → slices_BinarySearch_int_int.f k t.f3 ((i : Int) + 1) = some (pos i, fnd i)
set_option maxRecDepth 100000 in
set_option maxHeartbeats 4000000 in
theorem check_calls {w : World} (k : Nat) (t : S27) (d : D27) (hr : R27 w t d) (T1 T2 T9 : Int) (ms : Nat → Int) (times offs : List Int) (pos : Nat → Int) (fnd : Nat → Bool) (h : ChkOk k t T1 T2 T9 ms times offs pos fnd) :
    Calls Try.prog 12 #[.agg (cells27 t d)] w fun e w' => e = .returned (.int .i64 (checkF t T1 T2 T9 ms times offs fnd)) ∧ Below w.heap.size w w' := by
  have hu := Try.underlying27
  have HR := Aside0.mk hr
  have H := Aside0.mk h
  clear hr h
  unfold cells27
  go_enter Try.func12, Try.ntmps12
  obtain ⟨w1, hw1⟩ : ∃ wz, w.alloc (.cells (cells27 t d) 27) = wz := ⟨_, rfl⟩
  obtain ⟨g, hg⟩ : ∃ rz, w.heap.size = rz := ⟨_, rfl⟩
  have B1 : Aside0 (Below w.heap.size w w1) := ⟨by rw [← hw1]; exact below_alloc (Below.refl _ _) _⟩
  have K1 : Aside0 (Box27 w1 g t d) := ⟨by rw [← hw1, ← hg]; exact blk_new w _⟩
  have GE : Aside0 (w.heap.size ≤ g) := ⟨by omega⟩
  unfold cells27 at hw1
  obtain ⟨q0, q1, q2, q3, q4, q5, q6, q7, q8, q9, q10⟩ := K1.out.cells
  go_wp2_with fail
  clear hw1 hg
  have RR := HR.out.below B1.out
  refine (ranges_calls t.f0 d.A1 d.c1 t.f1 d.A2 d.c2 t.f2 d.A3 d.c3 t.f3 t.f4 t.f5 d.A6 d.c6 t.f6 d.A7 d.c7 t.f7 d.A8 d.c8 t.f8 d.A9 d.c9 t.f9 d.A10 d.c10 t.f10 RR.r1 RR.r2 RR.r6 RR.r7 RR.r8 RR.r9).mono ?_
  rintro e w2 ⟨rfl, hb⟩
  have B2 := Aside0.mk (below_step B1.out hb)
  have K2 := Aside0.mk (K1.out.below hb)
  clear hb RR B1 K1
  clear q0 q1 q2 q3 q4 q5 q6 q7 q8 q9 q10
  rw [show rangesB t.f0 t.f1 t.f2 t.f3 t.f4 t.f5 t.f6 t.f7 t.f8 t.f9 t.f10 = rgB t from rfl]
  cases hb1 : rgB t with
  | false =>
    have E1 := Aside0.mk hb1
    clear hb1
    go_wp2_with fail
    go_ret
    exact ⟨by rw [checkF, if_pos E1.out]; rfl, B2.out⟩
  | true =>
  have E1 := Aside0.mk hb1
  clear hb1
  obtain ⟨q0, q1, q2, q3, q4, q5, q6, q7, q8, q9, q10⟩ := K2.out.cells
  go_wp2_with fail
  have RR := HR.out.below B2.out
  refine (table_Count.calls k t.f0 d.A1 d.c1 t.f1 d.A2 d.c2 t.f2 d.A3 d.c3 t.f3 t.f4 t.f5 d.A6 d.c6 t.f6 d.A7 d.c7 t.f7 d.A8 d.c8 t.f8 d.A9 d.c9 t.f9 d.A10 d.c10 t.f10 T1 w2 RR.r1 RR.c1 RR.r2 RR.c2 RR.r3 RR.c3 RR.r6 RR.c6 RR.r7 RR.c7 RR.r8 RR.c8 RR.r9 RR.c9 RR.r10 RR.c10 (H.out.t1 E1.out)).mono ?_
  rintro e w3 ⟨rfl, hb⟩
  have B3 := Aside0.mk (below_step B2.out hb)
  have K3 := Aside0.mk (K2.out.below hb)
  clear hb RR B2 K2
  clear q0 q1 q2 q3 q4 q5 q6 q7 q8 q9 q10
  by_cases h4 : 400 < T1
  · have h4a : decide (400 < T1) = true := decide_eq_true h4
    have E2 := Aside0.mk h4a
    clear h4
    go_wp2_with fail
    go_ret
    exact ⟨by rw [checkF, if_neg (by rw [E1.out]; simp), if_pos E2.out]; rfl, B3.out⟩
  have h4a : decide (400 < T1) = false := decide_eq_false h4
  have E2 := Aside0.mk h4
  clear h4
  obtain ⟨q0, q1, q2, q3, q4, q5, q6, q7, q8, q9, q10⟩ := K3.out.cells
  go_wp2_with fail
  have HC2 := counts_calls k t d (HR.out.below B3.out) T1 T2 T9 ms (H.out.t2 E1.out) (H.out.t9 E1.out) H.out.hc
  unfold cells27 at HC2
  refine HC2.mono ?_
  rintro e w4 ⟨rfl, hb⟩
  have B4 := Aside0.mk (below_step B3.out hb)
  have K4 := Aside0.mk (K3.out.below hb)
  clear hb B3 K3 HC2 h4a
  clear q0 q1 q2 q3 q4 q5 q6 q7 q8 q9 q10
  cases hb1 : countsB t T1 T2 T9 ms with
  | false =>
    have E3 := Aside0.mk hb1
    clear hb1
    go_wp2_with fail
    go_ret
    exact ⟨by rw [checkF, if_neg (by rw [E1.out]; simp), if_neg (by have h9 := E2.out; simp; omega), if_pos E3.out]; rfl, B4.out⟩
  | true =>
  have E3 := Aside0.mk hb1
  clear hb1
  have HX : Aside0 (∀ z, (if (times.take (T1 - 1).toNat).any (fun x => x == 0) = true then (31 : Int) else if timesB offs 0 t.f0 times = false then 1 else if depsB t.f4 fnd 0 t.f10 = false then 32 else 0) = z → checkF t T1 T2 T9 ms times offs fnd = z) := ⟨fun z hz => by rw [checkF, if_neg (by rw [E1.out]; simp), if_neg (by have h9 := E2.out; simp; omega), if_neg (by rw [E3.out]; simp)]; exact hz⟩
  obtain ⟨hv1, hl1⟩ := H.out.v1 E1.out (by have h9 := E2.out; omega) E3.out
  obtain ⟨hv2, hl2⟩ := H.out.v2 E1.out (by have h9 := E2.out; omega) E3.out
  have V1 := Aside0.mk hv1
  have V2 := Aside0.mk hv2
  have L1 := Aside0.mk hl1
  have L2 := Aside0.mk hl2
  have BS := Aside0.mk (H.out.b E1.out E3.out)
  clear hv1 hv2 hl1 hl2 H
  obtain ⟨q0, q1, q2, q3, q4, q5, q6, q7, q8, q9, q10⟩ := K4.out.cells
  go_wp2_with fail
  have RR := HR.out.below B4.out
  refine (table_values.calls k d.A1 d.c1 t.f1 times w4 RR.r1 RR.c1 V1.out).mono ?_
  rintro e w5 ⟨v5, rfl, s5, hb⟩
  obtain ⟨At, ct, rfl⟩ := Kd.R_slice s5
  have QT := Aside0.mk (Kd.R_reads' s5).2
  have B5 := Aside0.mk (below_step B4.out hb)
  have K5 := Aside0.mk (K4.out.below hb)
  clear hb RR B4 K4 s5
  clear q0 q1 q2 q3 q4 q5 q6 q7 q8 q9 q10
  obtain ⟨mx, hmx⟩ : ∃ mx : Nat, max 0 (T1 - 1) = (mx : Int) := ⟨(max 0 (T1 - 1)).toNat, by omega⟩
  have hmw : wrap64 (T1 - 1) = T1 - 1 := by have := L1.out; have := E2.out; unfold wrap64; omega
  have hmi : IntKind.i64.wrap (T1 - 1) = T1 - 1 := by rw [IntKind.wrap_i64]; have := L1.out; have := E2.out; omega
  have MX : Aside0 ((T1 - 1).toNat = mx ∧ mx ≤ times.length) := ⟨by have := L1.out; omega⟩
  have hmc : mx ≤ ct := by have := MX.out.2; have := QT.out.1; omega
  go_wp2_with fail
  clear hmx hmw hmi hmc
  go_loopg [38] (mx + 1) (fun kq v38 w' => ∃ (j : Nat), v38 = .int .i64 (j : Int) ∧ Aside0 (kq = mx - j + 1) ∧ Aside0 (j ≤ mx ∧ ((times.take j).any fun x => x == 0) = false) ∧ Aside0 (w' = w5))
  case atStart => exact ⟨0, rfl, ⟨rfl⟩, ⟨⟨Nat.zero_le _, rfl⟩⟩, ⟨rfl⟩⟩
  case round =>
    obtain ⟨j, rfl, HQ, HI, HW⟩ := hrel
    obtain rfl := HW.out
    clear HW
    by_cases hj : j < mx
    · have hj1 : decide ((j : Int) < (mx : Int)) = true := decide_eq_true (by omega)
      have hj2 : decide (j < mx) = true := decide_eq_true hj
      have hj3 : (j < mx) = True := eq_true hj
      have HHJ := Aside0.mk hj
      have e8 : wrap64 ((j : Int) + 1) = ((j + 1 : Nat) : Int) := by have := MX.out.2; have := QT.out.2.2.1; unfold wrap64; omega
      have hjt : j < times.length := by have := MX.out.2; omega
      obtain ⟨ads, es, xs⟩ := Kd.at_int QT.out.2 (j : Int) (by omega) (by omega)
      cases es
      rw [Int.toNat_natCast] at xs
      have HTK : Aside0 (((times.take (j + 1)).any fun x => x == 0) = (rd times j == 0)) := ⟨by rw [List.take_add_one, List.any_append, HI.out.2]; simp [rd, List.getD_eq_getElem?_getD, List.getElem?_eq_getElem hjt]⟩
      generalize rd times j = tv at xs HTK
      clear hj hjt
      by_cases h1 : tv = 0
      · have h1a : (tv == 0) = true := beq_iff_eq.mpr h1
        have HSZ : Aside0 ((times.take mx).any (fun x => x == 0) = true) := ⟨by
          have h9 := HTK.out
          rw [h1a] at h9
          rw [List.any_eq_true] at h9 ⊢
          obtain ⟨z, hz, hz2⟩ := h9
          exact ⟨z, List.mem_of_mem_take (i := j + 1) (by rw [List.take_take, Nat.min_eq_left HHJ.out]; exact hz), hz2⟩⟩
        clear h1
        go_wp2_with fail
        go_ret
        exact ⟨by rw [HX.out 31 (by rw [MX.out.1, if_pos HSZ.out])]; rfl, B5.out⟩
      · have h1a : (tv == 0) = false := beq_eq_false_iff_ne.mpr h1
        clear h1
        rw [h1a] at HTK
        go_wp2_with fail
        go_roundg (mx - (j + 1) + 1)
        case measure => have := HQ.out; have := HHJ.out; omega
        case rel => exact ⟨j + 1, by first | rfl | rw [e8], ⟨rfl⟩, ⟨⟨HHJ.out, HTK.out⟩⟩, ⟨rfl⟩⟩
    · have hj1 : decide ((j : Int) < (mx : Int)) = false := decide_eq_false (by omega)
      have hj2 : decide (j < mx) = false := decide_eq_false hj
      have hj3 : (j < mx) = False := eq_false hj
      have HZ : Aside0 ((times.take (T1 - 1).toNat).any (fun x => x == 0) = false) := ⟨by have h9 := HI.out; rw [MX.out.1, show mx = j by omega]; exact h9.2⟩
      clear hj HI HQ
      obtain ⟨q0, q1, q2, q3, q4, q5, q6, q7, q8, q9, q10⟩ := K5.out.cells
      go_wp2_with fail
      clear hj1 hj2 hj3
      clear q0 q1 q2 q3 q4 q5 q6 q7 q8 q9 q10
      have KEEP := Aside0.mk (show St4 w wr.drew g t d from ⟨below_drew B5.out, K5.out.below (below_drew (Below.refl _ _)), (HR.out.below (below_drew B5.out))⟩).all
      have QA := Aside0.mk (show Kd.C (Kd.int .i64) wr.drew At times.length times from QT.out.2)
      clear B5 K5
      go_region_held3 (fun w' => w'.cell? ⟨g, 0, none⟩ = some (.int .i64 t.f0) ∧ w'.cell? ⟨g, 1, none⟩ = some (.slice d.A1 t.f1.length d.c1) ∧ w'.cell? ⟨g, 2, none⟩ = some (.slice d.A2 t.f2.length d.c2) ∧ w'.cell? ⟨g, 3, none⟩ = some (.slice d.A3 t.f3.length d.c3) ∧ w'.cell? ⟨g, 4, none⟩ = some (.bool t.f4) ∧ w'.cell? ⟨g, 5, none⟩ = some (.int .i64 t.f5) ∧ w'.cell? ⟨g, 6, none⟩ = some (.slice d.A6 t.f6.length d.c6) ∧ w'.cell? ⟨g, 7, none⟩ = some (.slice d.A7 t.f7.length d.c7) ∧ w'.cell? ⟨g, 8, none⟩ = some (.slice d.A8 t.f8.length d.c8) ∧ w'.cell? ⟨g, 9, none⟩ = some (.slice d.A9 t.f9.length d.c9) ∧ w'.cell? ⟨g, 10, none⟩ = some (.slice d.A10 t.f10.length d.c10) ∧ St4 w w' g t d) (first | exact KEEP.out | go_keep) (first
        | (go_at_call 46; with_reducible refine (table_values.calls k d.A2 d.c2 t.f2 offs _ (show _ ∧ _ ∧ _ ∧ _ ∧ _ ∧ _ ∧ _ ∧ _ ∧ _ ∧ _ ∧ _ ∧ St4 w _ g t d from by assumption).2.2.2.2.2.2.2.2.2.2.2.r.r2 (show _ ∧ _ ∧ _ ∧ _ ∧ _ ∧ _ ∧ _ ∧ _ ∧ _ ∧ _ ∧ _ ∧ St4 w _ g t d from by assumption).2.2.2.2.2.2.2.2.2.2.2.r.c2 V2.out).mono ?_; rintro e wq ⟨v, rfl, sv, hb⟩; have KEEP := Aside0.mk ((show _ ∧ _ ∧ _ ∧ _ ∧ _ ∧ _ ∧ _ ∧ _ ∧ _ ∧ _ ∧ _ ∧ St4 w _ g t d from by assumption).2.2.2.2.2.2.2.2.2.2.2.step hb).all; obtain ⟨Ab, cb, rfl⟩ := Kd.R_slice sv; have QB := Aside0.mk (Kd.R_reads' sv).2; have QA2 := Aside0.mk (Kd.C_below QA.out hb); clear sv hb))
      rename_i hh
      have S4 := Aside0.mk hh.2.2.2.2.2.2.2.2.2.2.2
      clear KEEP hh QA QT
      generalize wq = w6 at S4 QB QA2 ⊢
      go_wp2_with fail
      go_loopg [7, 52] (times.length + 1) (fun kq v7 v52 w' => ∃ (i : Nat) (dts : Int), v7 = .int .i64 dts ∧ v52 = .int .i64 (i : Int) ∧ Aside0 (kq = times.length - i + 1) ∧ Aside0 (i ≤ times.length ∧ timesB offs 0 t.f0 times = timesB offs i dts (times.drop i)) ∧ Aside0 (Below w6.heap.size w6 w'))
      case atStart => exact ⟨0, t.f0, rfl, rfl, ⟨rfl⟩, ⟨⟨Nat.zero_le _, rfl⟩⟩, ⟨Below.refl _ _⟩⟩
      case round =>
        obtain ⟨i, dts, rfl, rfl, HQ, HI, HW⟩ := hrel
        by_cases hj : i < times.length
        · have hj1 : decide ((i : Int) < (times.length : Int)) = true := decide_eq_true (by omega)
          have hj2 : decide (i < times.length) = true := decide_eq_true hj
          have hj3 : (i < times.length) = True := eq_true hj
          have HHJ := Aside0.mk hj
          have e8 : wrap64 ((i : Int) + 1) = ((i + 1 : Nat) : Int) := by have := QA2.out.2.1; unfold wrap64; omega
          obtain ⟨ads, es, xs⟩ := Kd.at_int (Kd.C_below QA2.out HW.out) (i : Int) (by omega) (by omega)
          cases es
          rw [Int.toNat_natCast] at xs
          have HTM : Aside0 (timesB offs 0 t.f0 times = (inT dts && inT (wrap64 (dts + offF offs i)) && timesB offs (i + 1) (wrap64 (dts + rd times i)) (times.drop (i + 1)))) := ⟨by rw [HI.out.2, List.drop_eq_getElem_cons hj, timesB]; simp [rd, List.getD_eq_getElem?_getD, List.getElem?_eq_getElem hj]⟩
          generalize rd times i = tv at xs HTM
          clear hj
          go_upto_if 59 with fail
          go_cut [11] from 57 to 63 (fun v11 w' => v11 = .int .i64 (offF offs i) ∧ Aside0 (w' = wr))
          case first =>
            by_cases ho : 0 < offs.length
            · have ho1 : decide (0 < offs.length) = true := decide_eq_true ho
              have ho2 : (0 < offs.length) = True := eq_true ho
              have hio : (i : Int) < (offs.length : Int) := by have := L2.out ho; have := HHJ.out; omega
              obtain ⟨ad2, e2, y5⟩ := Kd.at_int (Kd.C_below QB.out.2 HW.out) (i : Int) (by omega) hio
              cases e2
              rw [Int.toNat_natCast] at y5
              have hio1 : (i < offs.length) = True := eq_true (by omega)
              have HOF := Aside0.mk ho
              clear hio
              go_wp2_with fail
              go_meet
              case rel => exact ⟨by rw [offF, if_pos HOF.out], ⟨rfl⟩⟩
            · have ho1 : decide (0 < offs.length) = false := decide_eq_false ho
              have ho2 : (0 < offs.length) = False := eq_false ho
              have HOF := Aside0.mk ho
              go_wp2_with fail
              go_meet
              case rel => exact ⟨by rw [offF, if_neg (by have := HOF.out; omega)], ⟨rfl⟩⟩
          case rest =>
          obtain ⟨rfl, h1⟩ := hcut
          have h1 := h1.out
          subst h1
          obtain ⟨ov, hov⟩ : ∃ z, offF offs i = z := ⟨_, rfl⟩
          rw [hov] at HTM ⊢
          clear hov
          go_wp2_with fail
          refine (table_within.calls dts (-1099511627776) 1099511627776 _ _ (within_f _ _ _)).mono ?_
          rintro e w7 ⟨rfl, hb0⟩
          have HW7 := Aside0.mk (below_step HW.out hb0.below)
          have xs2 := (hb0.below.cell (World.block_lt_of_cell? _ _ xs)).trans xs
          clear hb0
          rw [show (decide ((-1099511627776 : Int) ≤ dts) && decide (dts ≤ 1099511627776)) = inT dts from rfl]
          cases hi1 : inT dts with
          | false =>
            have HSZ : Aside0 (timesB offs 0 t.f0 times = false) := ⟨by rw [HTM.out, hi1]; rfl⟩
            clear hi1
            go_wp2_with fail
            go_ret
            exact ⟨by rw [HX.out 1 (by rw [if_neg (by rw [HZ.out]; simp), if_pos HSZ.out])]; rfl, below_step S4.out.b HW7.out⟩
          | true =>
          rw [hi1] at HTM
          clear hi1
          go_wp2_with fail
          refine (table_within.calls (wrap64 (dts + ov)) (-1099511627776) 1099511627776 _ w7 (within_f _ _ _)).mono ?_
          rintro e w8 ⟨rfl, hb0⟩
          have HW8 := Aside0.mk (below_step HW7.out hb0.below)
          have xs3 := (hb0.below.cell (World.block_lt_of_cell? w7 _ xs2)).trans xs2
          clear hb0
          rw [show (decide ((-1099511627776 : Int) ≤ wrap64 (dts + ov)) && decide (wrap64 (dts + ov) ≤ 1099511627776)) = inT (wrap64 (dts + ov)) from rfl]
          cases hi1 : inT (wrap64 (dts + ov)) with
          | false =>
            have HSZ : Aside0 (timesB offs 0 t.f0 times = false) := ⟨by rw [HTM.out, hi1]; rfl⟩
            clear hi1
            go_wp2_with fail
            go_ret
            exact ⟨by rw [HX.out 1 (by rw [if_neg (by rw [HZ.out]; simp), if_pos HSZ.out])]; rfl, below_step S4.out.b HW8.out⟩
          | true =>
            have HSZ : Aside0 (timesB offs 0 t.f0 times = timesB offs (i + 1) (wrap64 (dts + tv)) (times.drop (i + 1))) := ⟨by rw [HTM.out, hi1]; rfl⟩
            clear hi1
            go_wp2_with fail
            go_roundg (times.length - (i + 1) + 1)
            case measure => have := HQ.out; have := HHJ.out; omega
            case rel => exact ⟨i + 1, _, rfl, by first | rfl | rw [e8], ⟨rfl⟩, ⟨⟨HHJ.out, HSZ.out⟩⟩, HW8⟩
        · have hj1 : decide ((i : Int) < (times.length : Int)) = false := decide_eq_false (by omega)
          have hj2 : decide (i < times.length) = false := decide_eq_false hj
          have hj3 : (i < times.length) = False := eq_false hj
          have HY : Aside0 (timesB offs 0 t.f0 times = true) := ⟨by rw [HI.out.2, List.drop_of_length_le (by omega)]; rfl⟩
          have S5 : Aside0 (St4 w wr g t d) := ⟨⟨below_step S4.out.b HW.out, S4.out.k.below HW.out, S4.out.r.below HW.out⟩⟩
          clear hj HI HQ HW S4 QB QA2
          obtain ⟨q0, q1, q2, q3, q4, q5, q6, q7, q8, q9, q10⟩ := S5.out.k.cells
          go_wp2_with fail
          clear hj1 hj2 hj3
          clear q0 q1 q2 q3 q4 q5 q6 q7 q8 q9 q10
          generalize wr = w9 at S5 ⊢
          generalize hA : d.A10 = A10
          have HA := Aside0.mk hA
          clear hA
          go_loopg [81] (t.f10.length + 1) (fun kq v81 w' => ∃ (i : Nat), v81 = .int .i64 (i : Int) ∧ Aside0 (kq = t.f10.length - i + 1) ∧ Aside0 (i ≤ t.f10.length ∧ depsB t.f4 fnd 0 t.f10 = depsB t.f4 fnd i (t.f10.drop i)) ∧ Aside0 (Below w9.heap.size w9 w'))
          case atStart => exact ⟨0, rfl, ⟨rfl⟩, ⟨⟨Nat.zero_le _, rfl⟩⟩, ⟨Below.refl _ _⟩⟩
          case round =>
            obtain ⟨i, rfl, HQ, HI, HW⟩ := hrel
            by_cases hj : i < t.f10.length
            · have hj1 : decide ((i : Int) < (t.f10.length : Int)) = true := decide_eq_true (by omega)
              have hj2 : decide (i < t.f10.length) = true := decide_eq_true hj
              have hj3 : (i < t.f10.length) = True := eq_true hj
              have HHJ := Aside0.mk hj
              have e8 : wrap64 ((i : Int) + 1) = ((i + 1 : Nat) : Int) := by have := S5.out.r.r10.2.1; unfold wrap64; omega
              obtain ⟨ad2, Ar, cr, es, xs, hcr, hRr⟩ := at_L3 (S5.out.r.below HW.out).r10 (i : Int) (by omega) (by omega)
              rw [HA.out] at es
              cases es
              rw [Int.toNat_natCast] at xs
              have HDS : Aside0 (depsB t.f4 fnd 0 t.f10 = (!(badD t.f4 (fnd i) (rd_L3 t.f10 i)) && dpB i 0 0 (rd_L3 t.f10 i) && depsB t.f4 fnd (i + 1) (t.f10.drop (i + 1)))) := ⟨by rw [HI.out.2, List.drop_eq_getElem_cons hj, depsB]; simp [rd_L3, List.getD_eq_getElem?_getD, List.getElem?_eq_getElem hj]⟩
              have HBS := Aside0.mk (BS.out i hj)
              generalize rd_L3 t.f10 i = l at xs HDS hcr hRr
              generalize fnd i = fd at HBS HDS
              generalize pos i = pp at HBS
              obtain ⟨al, hal⟩ : ∃ z, t.f4 = z := ⟨_, rfl⟩
              have HAL := Aside0.mk hal
              have HRR := Aside0.mk hRr
              obtain ⟨q0, q1, q2, q3, q4, q5, q6, q7, q8, q9, q10⟩ := (S5.out.k.below HW.out).cells
              rw [hal] at q4 HDS
              clear hj hal hcr hRr
              go_wp2_with fail
              have RR := S5.out.r.below HW.out
              refine (slices_BinarySearch_int_int.calls k d.A3 d.c3 t.f3 ((i : Int) + 1) pp fd _ RR.r3 RR.c3 HBS.out).mono ?_
              rintro e w10 ⟨rfl, hb0⟩
              have HW10 := Aside0.mk (below_step HW.out hb0.below)
              have HR10 := Aside0.mk (Kd.C_below HRR.out hb0.below)
              clear hb0 RR HW HRR xs
              clear q0 q1 q2 q3 q4 q5 q6 q7 q8 q9 q10
              obtain ⟨q0, q1, q2, q3, q4, q5, q6, q7, q8, q9, q10⟩ := (S5.out.k.below HW10.out).cells
              rw [HAL.out] at q4
              go_upto_region 30 with fail
              go_cut [15, 108] from 86 to 108 (fun v15 v108 w' => v108 = .bool (badD al fd l) ∧ Aside0 (w' = w10))
              case first =>
                by_cases hl4 : 4 < l.length
                · have hl5 : decide (4 < l.length) = true := decide_eq_true hl4
                  have hl6 : (4 < l.length) = True := eq_true hl4
                  go_wp2_with fail
                  all_goals (go_meet; case rel => exact ⟨by simp [badD, hl4], ⟨rfl⟩⟩)
                · have hl5 : decide (4 < l.length) = false := decide_eq_false hl4
                  have hl6 : (4 < l.length) = False := eq_false hl4
                  by_cases hl0 : 0 < l.length
                  · have hl1 : decide (0 < l.length) = true := decide_eq_true hl0
                    have hl2 : (0 < l.length) = True := eq_true hl0
                    go_wp2_with fail
                    all_goals (go_meet; case rel => exact ⟨by first | (simp [badD, hl4, hl0]; done) | (simp [badD, *]; done), ⟨rfl⟩⟩)
                  · have hl1 : decide (0 < l.length) = false := decide_eq_false hl0
                    have hl2 : (0 < l.length) = False := eq_false hl0
                    go_wp2_with fail
                    all_goals (go_meet; case rel => exact ⟨by first | (simp [badD, hl4, hl0]; done) | (simp [badD, *]; done), ⟨rfl⟩⟩)
              case rest =>
              obtain ⟨rfl, h1⟩ := hcut
              have h1 := h1.out
              subst h1
              clear q0 q1 q2 q3 q4 q5 q6 q7 q8 q9 q10
              cases hb1 : badD al fd l with
              | true =>
                have HSZ : Aside0 (depsB t.f4 fnd 0 t.f10 = false) := ⟨by rw [HAL.out, HDS.out, hb1]; rfl⟩
                clear hb1
                go_wp2_with fail
                go_ret
                exact ⟨by rw [HX.out 32 (by rw [if_neg (by rw [HZ.out]; simp), if_neg (by rw [HY.out]; simp), if_pos HSZ.out])]; rfl, below_step S5.out.b HW10.out⟩
              | false =>
              rw [hb1] at HDS
              clear hb1
              go_wp2_with fail
              generalize wc = w11 at HW10 HR10 ⊢
              go_loopg [111] (l.length + 1) (fun kq v111 w' => ∃ (m : Nat), v111 = .int .i64 (m : Int) ∧ Aside0 (kq = l.length - m + 1) ∧ Aside0 (m ≤ l.length ∧ dpB i 0 0 l = dpB i m (prevI l m) (l.drop m)) ∧ Aside0 (Below w11.heap.size w11 w'))
              case atStart => exact ⟨0, rfl, ⟨rfl⟩, ⟨⟨Nat.zero_le _, rfl⟩⟩, ⟨Below.refl _ _⟩⟩
              case round =>
                obtain ⟨m, rfl, MQ, MI, MW⟩ := hrel
                by_cases hm : m < l.length
                · have hm1 : decide ((m : Int) < (l.length : Int)) = true := decide_eq_true (by omega)
                  have hm2 : decide (m < l.length) = true := decide_eq_true hm
                  have hm3 : (m < l.length) = True := eq_true hm
                  have HHM := Aside0.mk hm
                  have e9 : wrap64 ((m : Int) + 1) = ((m + 1 : Nat) : Int) := by have := HR10.out.2.1; unfold wrap64; omega
                  obtain ⟨adl, el, xl⟩ := Kd.at_int (Kd.C_below HR10.out MW.out) (m : Int) (by omega) (by omega)
                  cases el
                  rw [Int.toNat_natCast] at xl
                  have HDP : Aside0 (dpB i 0 0 l = ((decide ((1 : Int) ≤ rd l m) && decide (rd l m ≤ i)) && (decide (m = 0) || decide (rd l m < prevI l m)) && dpB i (m + 1) (rd l m) (l.drop (m + 1)))) := ⟨by rw [MI.out.2, List.drop_eq_getElem_cons hm, dpB]; simp [rd, List.getD_eq_getElem?_getD, List.getElem?_eq_getElem hm]⟩
                  have HPV : Aside0 (prevI l (m + 1) = rd l m) := ⟨by simp [prevI]⟩
                  generalize rd l m = x at xl HDP HPV
                  clear hm
                  go_wp2_with fail
                  refine (table_within.calls x 1 i _ _ (within_f _ _ _)).mono ?_
                  rintro e w12 ⟨rfl, hb0⟩
                  have MW2 := Aside0.mk (below_step MW.out hb0.below)
                  clear hb0 xl MW
                  cases hi1 : (decide ((1 : Int) ≤ x) && decide (x ≤ (i : Int))) with
                  | false =>
                    have HSZ : Aside0 (depsB t.f4 fnd 0 t.f10 = false) := ⟨by rw [HAL.out, HDS.out, HDP.out, hi1]; rfl⟩
                    clear hi1
                    go_wp2_with fail
                    go_ret
                    exact ⟨by rw [HX.out 32 (by rw [if_neg (by rw [HZ.out]; simp), if_neg (by rw [HY.out]; simp), if_pos HSZ.out])]; rfl, below_step S5.out.b (below_step HW10.out MW2.out)⟩
                  | true =>
                  rw [hi1] at HDP
                  clear hi1
                  by_cases hm0 : m = 0
                  · have hz2 : decide (0 < m) = false := decide_eq_false (by omega)
                    have hz3 : decide ((0 : Int) < (m : Int)) = false := decide_eq_false (by omega)
                    have HSZ : Aside0 (dpB i 0 0 l = dpB i (m + 1) x (l.drop (m + 1))) := ⟨by rw [HDP.out, decide_eq_true hm0]; rfl⟩
                    clear hm0
                    go_wp2_with fail
                    go_roundg (l.length - (m + 1) + 1)
                    case measure => have := MQ.out; have := HHM.out; omega
                    case rel => exact ⟨m + 1, by first | rfl | rw [e9], ⟨rfl⟩, ⟨⟨HHM.out, by rw [HPV.out]; exact HSZ.out⟩⟩, MW2⟩
                  · have hz2 : decide (0 < m) = true := decide_eq_true (by omega)
                    have hz3 : decide ((0 : Int) < (m : Int)) = true := decide_eq_true (by omega)
                    obtain ⟨p, hp⟩ : ∃ p : Nat, (m : Int) - 1 = (p : Int) := ⟨m - 1, by omega⟩
                    have hp1 : wrap64 ((m : Int) - 1) = (p : Int) := by have := HR10.out.2.1; have := HHM.out; unfold wrap64; omega
                    have hp2 : IntKind.i64.wrap ((m : Int) - 1) = (p : Int) := by rw [IntKind.wrap_i64]; have := HR10.out.2.1; have := HHM.out; omega
                    have hp3 : (p < l.length) = True := eq_true (by have := HHM.out; omega)
                    obtain ⟨adl', el', xl'⟩ := Kd.at_int (Kd.C_below HR10.out MW2.out) (p : Int) (by omega) (by have := HHM.out; omega)
                    cases el'
                    rw [Int.toNat_natCast] at xl'
                    have hpv : prevI l m = rd l p := by rw [prevI, if_neg hm0]; congr 1; omega
                    rw [hpv, decide_eq_false hm0] at HDP
                    generalize rd l p = pv at xl' HDP
                    clear hm0 hp hpv
                    by_cases hxp : x < pv
                    · have hxp1 : decide (pv ≤ x) = false := decide_eq_false (by omega)
                      have HSZ : Aside0 (dpB i 0 0 l = dpB i (m + 1) x (l.drop (m + 1))) := ⟨by rw [HDP.out, decide_eq_true hxp]; rfl⟩
                      clear hxp
                      go_wp2_with fail
                      go_roundg (l.length - (m + 1) + 1)
                      case measure => have := MQ.out; have := HHM.out; omega
                      case rel => exact ⟨m + 1, by first | rfl | rw [e9], ⟨rfl⟩, ⟨⟨HHM.out, by rw [HPV.out]; exact HSZ.out⟩⟩, MW2⟩
                    · have hxp1 : decide (pv ≤ x) = true := decide_eq_true (by omega)
                      have HSZ : Aside0 (depsB t.f4 fnd 0 t.f10 = false) := ⟨by rw [HAL.out, HDS.out, HDP.out, decide_eq_false hxp]; rfl⟩
                      clear hxp
                      go_wp2_with fail
                      go_ret
                      exact ⟨by rw [HX.out 32 (by rw [if_neg (by rw [HZ.out]; simp), if_neg (by rw [HY.out]; simp), if_pos HSZ.out])]; rfl, below_step S5.out.b (below_step HW10.out MW2.out)⟩
                · have hm1 : decide ((m : Int) < (l.length : Int)) = false := decide_eq_false (by omega)
                  have hm2 : decide (m < l.length) = false := decide_eq_false hm
                  have hm3 : (m < l.length) = False := eq_false hm
                  have HDP : Aside0 (dpB i 0 0 l = true) := ⟨by rw [MI.out.2, List.drop_of_length_le (by omega)]; rfl⟩
                  have HSZ : Aside0 (depsB t.f4 fnd 0 t.f10 = depsB t.f4 fnd (i + 1) (t.f10.drop (i + 1))) := ⟨by rw [HAL.out, HDS.out, HDP.out]; rfl⟩
                  clear hm
                  go_wp2_with fail
                  go_roundg (t.f10.length - (i + 1) + 1)
                  case measure => have := HQ.out; have := HHJ.out; omega
                  case rel => exact ⟨i + 1, by first | rfl | rw [e8], ⟨rfl⟩, ⟨⟨HHJ.out, HSZ.out⟩⟩, ⟨below_step HW10.out MW.out⟩⟩
            · have hj1 : decide ((i : Int) < (t.f10.length : Int)) = false := decide_eq_false (by omega)
              have hj2 : decide (i < t.f10.length) = false := decide_eq_false hj
              have hj3 : (i < t.f10.length) = False := eq_false hj
              have HSZ : Aside0 (depsB t.f4 fnd 0 t.f10 = true) := ⟨by rw [HI.out.2, List.drop_of_length_le (by omega)]; rfl⟩
              clear hj
              go_wp2_with fail
              go_ret
              exact ⟨by rw [HX.out 0 (by rw [if_neg (by rw [HZ.out]; simp), if_neg (by rw [HY.out]; simp), if_neg (by rw [HSZ.out]; simp)])]; rfl, below_step S5.out.b HW.out⟩
end Go.Proofs.Ytmbhafgnmdfjhaa.QTab
