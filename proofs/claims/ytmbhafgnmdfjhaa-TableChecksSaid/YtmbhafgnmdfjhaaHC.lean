/- A lemma file: table.counts, walked. No condition. -/
import Derived.Test.YtmbhafgnmdfjhaaHT
import Derived.Deep.CutRange
namespace Go.Proofs.Ytmbhafgnmdfjhaa.QTab
open Go.RowKit Go.Proofs.YtmbhafgnmdfjhaaW.PrintWords Go.Proofs.YtmbhafgnmdfjhaaW.PrintLast Go.Proofs.YtmbhafgnmdfjhaaW.PrintMore Go.Proofs.YtmbhafgnmdfjhaaV
set_option linter.unusedVariables false
set_option linter.unusedSimpArgs false
def bad1 (t : S27) (n T2 T9 : Int) : Bool := decide (0 < t.f2.length) && T2 != n || decide (0 < t.f9.length) && T9 != n || decide (0 < t.f10.length) && (t.f10.length : Int) != n
def bad2 (t : S27) (n : Int) : Bool := t.f5 == 0 && (t.f6.length : Int) != n || decide (0 < t.f5) && decide (0 < t.f6.length) || t.f4 && decide (0 < t.f3.length)
def syncsB (n : Int) : Int → List Int → Bool
  | _, [] => true
  | last, s :: l => decide (last < s) && decide (s ≤ n) && syncsB n s l
def chB (np : Int) : Nat → Int → List S86 → Bool
  | _, _, [] => true
  | i, p, c :: l => (if i = 0 then c.f0 == 1 else decide (p < c.f0)) && decide (c.f0 ≤ np) && chB np (i + 1) c.f0 l
def prevC (l : List S86) (i : Nat) : Int := if i = 0 then 0 else (rd_T86 l ((i - 1 : Nat) : Int)).f0
def capSum (ms : Nat → Int) : Nat → Int
  | 0 => 0
  | c + 1 => min (wrap64 (capSum ms c + ms c)) 401
def countsB (t : S27) (n T2 T9 : Int) (ms : Nat → Int) : Bool :=
  !(bad1 t n T2 T9) && (!(bad2 t n) && (syncsB n 0 t.f3 && (decide (0 < t.f7.length) == decide (0 < t.f8.length) && (chB t.f8.length 0 0 t.f7 && capSum ms t.f8.length == n))))
set_option maxRecDepth 100000 in
set_option maxHeartbeats 2000000 in
theorem counts_calls {w : World} (k : Nat) (t : S27) (d : D27) (hr : R27 w t d) (n T2 T9 : Int) (ms : Nat → Int) (h2 : table_total.f k t.f2 = some T2) (h9 : table_total.f k t.f9 = some T9)
    (hc : chB t.f8.length 0 0 t.f7 = true → decide (0 < t.f7.length) = decide (0 < t.f8.length) → ∀ c : Nat, c < t.f8.length → table_inChunk.f k t.f0 t.f1 t.f2 t.f3 t.f4 t.f5 t.f6 t.f7 t.f8 t.f9 t.f10 c = some (ms c)) :
    Calls Try.prog 45 #[.agg (cells27 t d), .int .i64 n] w fun e w' => e = .returned (.bool (countsB t n T2 T9 ms)) ∧ Below w.heap.size w w' := by
  have hu := Try.underlying27
  have hu86 := Try.underlying86
  have HR := Aside0.mk hr
  have HC := Aside0.mk hc
  have H2 := Aside0.mk h2
  have H9 := Aside0.mk h9
  clear hr hc h2 h9
  unfold cells27
  go_enter Try.func45, Try.ntmps45
  obtain ⟨w1, hw1⟩ : ∃ wz, w.alloc (.cells (cells27 t d) 27) = wz := ⟨_, rfl⟩
  obtain ⟨g, hg⟩ : ∃ rz, w.heap.size = rz := ⟨_, rfl⟩
  have B1 : Aside0 (Below w.heap.size w w1) := ⟨by rw [← hw1]; exact below_alloc (Below.refl _ _) _⟩
  have K1 : Aside0 (Box27 w1 g t d) := ⟨by rw [← hw1, ← hg]; exact blk_new w _⟩
  have GE : Aside0 (w.heap.size ≤ g) := ⟨by omega⟩
  unfold cells27 at hw1
  go_upto_region 1 with fail
  clear hw1 hg
  go_cut [48] from 12 to 48 (fun v48 w' => v48 = .bool (bad1 t n T2 T9) ∧ Aside0 (Below w.heap.size w w' ∧ Box27 w' g t d))
  case first =>
    obtain ⟨q0, q1, q2, q3, q4, q5, q6, q7, q8, q9, q10⟩ := K1.out.cells
    go_wp2_with (first
      | (go_at_call 54; with_reducible refine (table_total.calls k d.A2 d.c2 t.f2 T2 _ (HR.out.below B1.out).r2 HR.out.c2 H2.out).mono ?_; rintro e w2 ⟨rfl, hb⟩; have B1 := Aside0.mk (below_step B1.out hb); have K1 := Aside0.mk (K1.out.below hb); clear hb; obtain ⟨q0, q1, q2, q3, q4, q5, q6, q7, q8, q9, q10⟩ := K1.out.cells)
      | (go_at_call 54; with_reducible refine (table_total.calls k d.A9 d.c9 t.f9 T9 _ (HR.out.below B1.out).r9 HR.out.c9 H9.out).mono ?_; rintro e w2 ⟨rfl, hb⟩; have B1 := Aside0.mk (below_step B1.out hb); have K1 := Aside0.mk (K1.out.below hb); clear hb; obtain ⟨q0, q1, q2, q3, q4, q5, q6, q7, q8, q9, q10⟩ := K1.out.cells))

    all_goals (go_meet; case rel => exact ⟨by simp [bad1, *], ⟨B1.out, K1.out⟩⟩)
  case rest =>
  obtain ⟨rfl, h1⟩ := hcut
  have B2 := Aside0.mk h1.out.1
  have K2 := Aside0.mk h1.out.2
  clear h1 B1 K1
  generalize wc = w2 at B2 K2 ⊢
  cases hb1 : bad1 t n T2 T9 with
  | true =>
    have HB1 := Aside0.mk hb1
    clear hb1
    go_wp2_with fail
    go_ret
    exact ⟨by rw [countsB, HB1.out]; rfl, B2.out⟩
  | false =>
  have HB1 := Aside0.mk hb1
  clear hb1
  go_upto_region 3 with fail
  go_cut [0, 79] from 49 to 79 (fun v0 v79 w' => v79 = .bool (bad2 t n) ∧ Aside0 (Below w.heap.size w w' ∧ Box27 w' g t d))
  case first =>
    obtain ⟨q0, q1, q2, q3, q4, q5, q6, q7, q8, q9, q10⟩ := K2.out.cells
    go_wp2_with fail
    all_goals (go_meet; case rel => exact ⟨by first | (simp [bad2, *]; done) | (simp [bad2, *]; intros; omega) | (exfalso; have hq := List.length_pos_iff (l := t.f6); simp_all; done), ⟨B2.out, K2.out⟩⟩)
  case rest =>
  obtain ⟨rfl, h1⟩ := hcut
  have B3 := Aside0.mk h1.out.1
  have K3 := Aside0.mk h1.out.2
  clear h1 B2 K2
  generalize wc = w3 at B3 K3 ⊢
  cases hb1 : bad2 t n with
  | true =>
    have HB2 := Aside0.mk hb1
    clear hb1
    go_wp2_with fail
    go_ret
    exact ⟨by rw [countsB, HB1.out, HB2.out]; rfl, B3.out⟩
  | false =>
  have HB2 := Aside0.mk hb1
  clear hb1
  obtain ⟨q0, q1, q2, q3, q4, q5, q6, q7, q8, q9, q10⟩ := K3.out.cells
  go_wp2_with fail
  clear q0 q1 q2 q3 q4 q5 q6 q7 q8 q9 q10
  have SA3 := (HR.out.below B3.out).r3
  generalize d.A3 = A3 at SA3 ⊢
  have SAA := Aside0.mk SA3
  clear SA3
  go_loopg [5, 83] (t.f3.length + 1) (fun kq v5 v83 w' => ∃ (j : Nat) (last : Int), v5 = .int .i64 last ∧ v83 = .int .i64 (j : Int) ∧ Aside0 (kq = t.f3.length - j + 1) ∧ Aside0 (j ≤ t.f3.length ∧ syncsB n 0 t.f3 = syncsB n last (t.f3.drop j)) ∧ Aside0 (w' = w3))
  case atStart => exact ⟨0, 0, rfl, rfl, ⟨rfl⟩, ⟨⟨Nat.zero_le _, rfl⟩⟩, ⟨rfl⟩⟩
  case round =>
    obtain ⟨j, last, rfl, rfl, HQ, HI, HW⟩ := hrel
    obtain rfl := HW.out
    clear HW
    by_cases hj : j < t.f3.length
    · have hj1 : decide ((j : Int) < (t.f3.length : Int)) = true := decide_eq_true (by omega)
      have hj2 : decide (j < t.f3.length) = true := decide_eq_true hj
      have hj3 : (j < t.f3.length) = True := eq_true hj
      have HJ1 := Aside0.mk hj
      have e8 : wrap64 ((j : Int) + 1) = ((j + 1 : Nat) : Int) := by have := SAA.out.2.1; unfold wrap64; omega
      obtain ⟨ads, es, xs⟩ := Kd.at_int SAA.out (j : Int) (by omega) (by omega)
      cases es
      rw [Int.toNat_natCast] at xs
      have HSY : Aside0 (syncsB n 0 t.f3 = (decide (last < rd t.f3 j) && decide (rd t.f3 j ≤ n) && syncsB n (rd t.f3 j) (t.f3.drop (j + 1)))) := ⟨by rw [HI.out.2, List.drop_eq_getElem_cons hj, syncsB]; simp [rd, List.getD_eq_getElem?_getD, List.getElem?_eq_getElem hj]⟩
      generalize rd t.f3 j = s at xs HSY
      clear hj
      by_cases h1 : last < s
      · have h1a : decide (s ≤ last) = false := decide_eq_false (by omega)
        by_cases h2 : s ≤ n
        · have h2a : decide (n < s) = false := decide_eq_false (by omega)
          have HSZ : Aside0 (syncsB n 0 t.f3 = syncsB n s (t.f3.drop (j + 1))) := ⟨by rw [HSY.out, decide_eq_true h1, decide_eq_true h2]; rfl⟩
          clear h1 h2
          go_wp2_with fail
          go_roundg (t.f3.length - (j + 1) + 1)
          case measure => have := HQ.out; have := HJ1.out; omega
          case rel => exact ⟨j + 1, s, rfl, by first | rfl | rw [e8], ⟨rfl⟩, ⟨⟨HJ1.out, HSZ.out⟩⟩, ⟨rfl⟩⟩
        · have h2a : decide (n < s) = true := decide_eq_true (by omega)
          have HSZ : Aside0 (syncsB n 0 t.f3 = false) := ⟨by rw [HSY.out, decide_eq_false h2]; simp⟩
          clear h1 h2
          go_wp2_with fail
          go_ret
          exact ⟨by rw [countsB, HB1.out, HB2.out, HSZ.out]; rfl, B3.out⟩
      · have h1a : decide (s ≤ last) = true := decide_eq_true (by omega)
        have HSZ : Aside0 (syncsB n 0 t.f3 = false) := ⟨by rw [HSY.out, decide_eq_false h1]; simp⟩
        clear h1
        go_wp2_with fail
        go_ret
        exact ⟨by rw [countsB, HB1.out, HB2.out, HSZ.out]; rfl, B3.out⟩
    · have hj1 : decide ((j : Int) < (t.f3.length : Int)) = false := decide_eq_false (by omega)
      have hj2 : decide (j < t.f3.length) = false := decide_eq_false hj
      have hj3 : (j < t.f3.length) = False := eq_false hj
      have HSY : Aside0 (syncsB n 0 t.f3 = true) := ⟨by rw [HI.out.2, List.drop_of_length_le (by omega)]; rfl⟩
      clear hj HI HQ SAA
      obtain ⟨q0, q1, q2, q3, q4, q5, q6, q7, q8, q9, q10⟩ := K3.out.cells
      by_cases hE : decide (0 < t.f7.length) = decide (0 < t.f8.length)
      · have hE1 : (!(decide (0 < t.f7.length) == decide (0 < t.f8.length))) = false := by rw [hE]; simp
        have HE : Aside0 ((decide (0 < t.f7.length) == decide (0 < t.f8.length)) = true) := ⟨by rw [hE]; simp⟩
        have HEE := Aside0.mk hE
        clear hE
        go_wp2_with fail
        clear hE1 q0 q1 q2 q3 q4 q5 q6 q7 q8 q9 q10 hj1 hj2 hj3
        have SA7 := (HR.out.below B3.out).r7
        generalize hA7 : d.A7 = A7 at SA7 ⊢
        have HA7 := Aside0.mk hA7
        have SAA := Aside0.mk SA7
        clear SA7 hA7
        generalize wr = w4 at B3 K3 SAA ⊢
        go_loopg [109] (t.f7.length + 1) (fun kq v109 w' => ∃ (i : Nat), v109 = .int .i64 (i : Int) ∧ Aside0 (kq = t.f7.length - i + 1) ∧ Aside0 (i ≤ t.f7.length ∧ chB t.f8.length 0 0 t.f7 = chB t.f8.length i (prevC t.f7 i) (t.f7.drop i)) ∧ Aside0 (Below w.heap.size w w' ∧ Box27 w' g t d))
        case atStart => exact ⟨0, rfl, ⟨rfl⟩, ⟨⟨Nat.zero_le _, rfl⟩⟩, ⟨⟨B3.out, K3.out⟩⟩⟩
        case round =>
          obtain ⟨i, rfl, HQ, HI, HW⟩ := hrel
          by_cases hj : i < t.f7.length
          · have hj1 : decide ((i : Int) < (t.f7.length : Int)) = true := decide_eq_true (by omega)
            have hj2 : decide (i < t.f7.length) = true := decide_eq_true hj
            have hj3 : (i < t.f7.length) = True := eq_true hj
            have HJ1 := Aside0.mk hj
            have e8 : wrap64 ((i : Int) + 1) = ((i + 1 : Nat) : Int) := by have := SAA.out.2.1; unfold wrap64; omega
            obtain ⟨ads, es, x5, y5⟩ := at_T86 (HR.out.below HW.out.1).r7 (i : Int) (by omega) (by omega)
            rw [HA7.out] at es
            cases es
            rw [Int.toNat_natCast] at x5 y5
            obtain ⟨cc, hcc⟩ : ∃ z, rd_T86 t.f7 i = z := ⟨_, rfl⟩
            rw [hcc] at x5 y5
            have HCH : Aside0 (chB t.f8.length 0 0 t.f7 = ((if i = 0 then cc.f0 == 1 else decide (prevC t.f7 i < cc.f0)) && decide (cc.f0 ≤ (t.f8.length : Int)) && chB t.f8.length (i + 1) cc.f0 (t.f7.drop (i + 1)))) := ⟨by rw [HI.out.2, List.drop_eq_getElem_cons hj, chB, ← hcc]; simp [rd_T86, List.getD_eq_getElem?_getD, List.getElem?_eq_getElem hj]⟩
            have HPV : Aside0 (prevC t.f7 (i + 1) = cc.f0) := ⟨by rw [← hcc]; simp [prevC]⟩
            obtain ⟨w5, hw5⟩ : ∃ wz, wr.alloc (.cells #[.int .i64 cc.f0, .int .i64 cc.f1] 86) = wz := ⟨_, rfl⟩
            have hq5 : Below wr.heap.size wr w5 := by rw [← hw5]; exact below_alloc (Below.refl _ _) _
            have B5 : Aside0 (Below w.heap.size w w5 ∧ True) := ⟨⟨below_step HW.out.1 hq5, trivial⟩⟩
            have K5 := Aside0.mk (HW.out.2.below hq5)
            have L5 : w5.heap[wr.heap.size]? = some (.cells #[.int .i64 cc.f0, .int .i64 cc.f1] 86 (0, 0)) := by rw [← hw5]; exact blk_new wr _
            obtain ⟨l0, l1, l2, l3⟩ := bcells2 L5
            have q7 := K5.out.cells.2.2.2.2.2.2.2.1
            have q8 := K5.out.cells.2.2.2.2.2.2.2.2.1
            rw [HA7.out] at q7
            clear hcc hq5 L5
            by_cases hi0 : i = 0
            · have hz1 : ((i : Int) == 0) = true := beq_iff_eq.mpr (by omega)
              have hz2 : decide (0 < i) = false := decide_eq_false (by omega)
              have HI0 := Aside0.mk hi0
              clear hj hi0
              go_wp2_with fail
              by_cases hcA : cc.f0 = 1
              · have hok1 : (if i = 0 then cc.f0 == 1 else decide (prevC t.f7 i < cc.f0)) = true := by rw [if_pos HI0.out]; exact beq_iff_eq.mpr hcA
                have hcB : (cc.f0 != 1) = false := bne_eq_false_iff_eq.mpr hcA
                clear hcA
                by_cases hcD : cc.f0 ≤ (t.f8.length : Int)
                · have hok2 : decide (cc.f0 ≤ (t.f8.length : Int)) = true := decide_eq_true hcD
                  have hcE : decide ((t.f8.length : Int) < cc.f0) = false := decide_eq_false (by omega)
                  clear hcD
                  have HCF : Aside0 (chB t.f8.length 0 0 t.f7 = chB t.f8.length (i + 1) cc.f0 (t.f7.drop (i + 1))) := ⟨by rw [HCH.out, hok1, hok2]; rfl⟩
                  clear hok1 hok2
                  repeat (go_quiet (fail); go_wp2_with fail)
                  go_roundg (t.f7.length - (i + 1) + 1)
                  case measure => have := HQ.out; have := HJ1.out; omega
                  case rel => exact ⟨i + 1, by first | rfl | rw [e8], ⟨rfl⟩, ⟨⟨HJ1.out, by rw [HCF.out, HPV.out]⟩⟩, ⟨⟨pw_below_drewN B5.out.1 _, K5.out⟩⟩⟩
                · have hok2 : decide (cc.f0 ≤ (t.f8.length : Int)) = false := decide_eq_false hcD
                  have hcE : decide ((t.f8.length : Int) < cc.f0) = true := decide_eq_true (by omega)
                  clear hcD
                  have HCF : Aside0 (chB t.f8.length 0 0 t.f7 = false) := ⟨by rw [HCH.out, hok1, hok2]; simp⟩
                  clear hok1 hok2
                  repeat (go_quiet (fail); go_wp2_with fail)
                  go_ret
                  exact ⟨by rw [countsB, HB1.out, HB2.out, HSY.out, HE.out, HCF.out]; rfl, pw_below_drewN B5.out.1 _⟩
              · have hok1 : (if i = 0 then cc.f0 == 1 else decide (prevC t.f7 i < cc.f0)) = false := by rw [if_pos HI0.out]; exact beq_eq_false_iff_ne.mpr hcA
                have hcB : (cc.f0 != 1) = true := bne_iff_ne.mpr hcA
                clear hcA
                have HCF : Aside0 (chB t.f8.length 0 0 t.f7 = false) := ⟨by rw [HCH.out, hok1]; simp⟩
                clear hok1
                repeat (go_quiet (fail); go_wp2_with fail)
                go_ret
                exact ⟨by rw [countsB, HB1.out, HB2.out, HSY.out, HE.out, HCF.out]; rfl, pw_below_drewN B5.out.1 _⟩
            · have hz1 : ((i : Int) == 0) = false := beq_eq_false_iff_ne.mpr (by omega)
              have hz2 : decide (0 < i) = true := decide_eq_true (by omega)
              have hz3 : decide ((0 : Int) < (i : Int)) = true := decide_eq_true (by omega)
              obtain ⟨m, hm⟩ : ∃ m : Nat, (i : Int) - 1 = (m : Int) := ⟨i - 1, by omega⟩
              have hm1 : wrap64 ((i : Int) - 1) = (m : Int) := by have := SAA.out.2.1; unfold wrap64; omega
              have hm2 : IntKind.i64.wrap ((i : Int) - 1) = (m : Int) := by rw [IntKind.wrap_i64]; have := SAA.out.2.1; omega
              have hm3 : (m < t.f7.length) = True := eq_true (by omega)
              obtain ⟨ads', es', x6, y6⟩ := at_T86 (HR.out.below B5.out.1).r7 (m : Int) (by omega) (by omega)
              rw [HA7.out] at es'
              cases es'
              rw [Int.toNat_natCast] at x6 y6
              have hpv : prevC t.f7 i = (rd_T86 t.f7 m).f0 := by rw [prevC, if_neg hi0]; congr 2; omega
              obtain ⟨pv, hpv2⟩ : ∃ z, (rd_T86 t.f7 m).f0 = z := ⟨_, rfl⟩
              rw [hpv2] at x6 hpv
              have HI0 := Aside0.mk hi0
              have HPP := Aside0.mk hpv
              clear hj hi0 hm hpv hpv2 y6
              go_wp2_with fail
              by_cases hcA : pv < cc.f0
              · have hok1 : (if i = 0 then cc.f0 == 1 else decide (prevC t.f7 i < cc.f0)) = true := by rw [if_neg HI0.out, HPP.out]; exact decide_eq_true hcA
                have hcB : decide (cc.f0 ≤ pv) = false := decide_eq_false (by omega)
                clear hcA
                by_cases hcD : cc.f0 ≤ (t.f8.length : Int)
                · have hok2 : decide (cc.f0 ≤ (t.f8.length : Int)) = true := decide_eq_true hcD
                  have hcE : decide ((t.f8.length : Int) < cc.f0) = false := decide_eq_false (by omega)
                  clear hcD
                  have HCF : Aside0 (chB t.f8.length 0 0 t.f7 = chB t.f8.length (i + 1) cc.f0 (t.f7.drop (i + 1))) := ⟨by rw [HCH.out, hok1, hok2]; rfl⟩
                  clear hok1 hok2
                  repeat (go_quiet (fail); go_wp2_with fail)
                  go_roundg (t.f7.length - (i + 1) + 1)
                  case measure => have := HQ.out; have := HJ1.out; omega
                  case rel => exact ⟨i + 1, by first | rfl | rw [e8], ⟨rfl⟩, ⟨⟨HJ1.out, by rw [HCF.out, HPV.out]⟩⟩, ⟨⟨pw_below_drewN B5.out.1 _, K5.out⟩⟩⟩
                · have hok2 : decide (cc.f0 ≤ (t.f8.length : Int)) = false := decide_eq_false hcD
                  have hcE : decide ((t.f8.length : Int) < cc.f0) = true := decide_eq_true (by omega)
                  clear hcD
                  have HCF : Aside0 (chB t.f8.length 0 0 t.f7 = false) := ⟨by rw [HCH.out, hok1, hok2]; simp⟩
                  clear hok1 hok2
                  repeat (go_quiet (fail); go_wp2_with fail)
                  go_ret
                  exact ⟨by rw [countsB, HB1.out, HB2.out, HSY.out, HE.out, HCF.out]; rfl, pw_below_drewN B5.out.1 _⟩
              · have hok1 : (if i = 0 then cc.f0 == 1 else decide (prevC t.f7 i < cc.f0)) = false := by rw [if_neg HI0.out, HPP.out]; exact decide_eq_false hcA
                have hcB : decide (cc.f0 ≤ pv) = true := decide_eq_true (by omega)
                clear hcA
                have HCF : Aside0 (chB t.f8.length 0 0 t.f7 = false) := ⟨by rw [HCH.out, hok1]; simp⟩
                clear hok1
                repeat (go_quiet (fail); go_wp2_with fail)
                go_ret
                exact ⟨by rw [countsB, HB1.out, HB2.out, HSY.out, HE.out, HCF.out]; rfl, pw_below_drewN B5.out.1 _⟩
          · have hj1 : decide ((i : Int) < (t.f7.length : Int)) = false := decide_eq_false (by omega)
            have hj2 : decide (i < t.f7.length) = false := decide_eq_false hj
            have hj3 : (i < t.f7.length) = False := eq_false hj
            have HCF : Aside0 (chB t.f8.length 0 0 t.f7 = true) := ⟨by rw [HI.out.2, List.drop_of_length_le (by omega)]; rfl⟩
            have HMS := Aside0.mk (HC.out HCF.out HEE.out)
            have B6 := Aside0.mk HW.out.1
            have K6 := Aside0.mk HW.out.2
            clear hj HI HQ SAA HC HW
            obtain ⟨q0, q1, q2, q3, q4, q5, q6, q7, q8, q9, q10⟩ := K6.out.cells
            go_wp2_with fail
            clear q0 q1 q2 q3 q4 q5 q6 q7 q8 q9 q10 hj1 hj2 hj3
            generalize wr = w6 at B6 K6 ⊢
            go_loopg [10, 149] (t.f8.length + 1) (fun kq v10 v149 w' => ∃ (c : Nat), v10 = .int .i64 (capSum ms c) ∧ v149 = .int .i64 (c : Int) ∧ Aside0 (kq = t.f8.length - c + 1) ∧ Aside0 (c ≤ t.f8.length) ∧ Aside0 (Below w.heap.size w w' ∧ Box27 w' g t d))
            case atStart => exact ⟨0, rfl, rfl, ⟨rfl⟩, ⟨Nat.zero_le _⟩, ⟨⟨B6.out, K6.out⟩⟩⟩
            case round =>
              clear B6 K6
              obtain ⟨c, rfl, rfl, HQ, HI, HW⟩ := hrel
              by_cases hj : c < t.f8.length
              · have hj1 : decide ((c : Int) < (t.f8.length : Int)) = true := decide_eq_true (by omega)
                have hj2 : decide (c < t.f8.length) = true := decide_eq_true hj
                have hj3 : (c < t.f8.length) = True := eq_true hj
                have HJ1 := Aside0.mk hj
                have e8 : wrap64 ((c : Int) + 1) = ((c + 1 : Nat) : Int) := by have := HR.out.r8.2.1; unfold wrap64; omega
                have HMC := Aside0.mk (HMS.out c hj)
                have HCS : Aside0 (capSum ms (c + 1) = min (wrap64 (capSum ms c + ms c)) 401) := ⟨rfl⟩
                generalize ms c = mc at HMC HCS
                generalize capSum ms c = sc at HCS ⊢
                clear hj
                obtain ⟨q0, q1, q2, q3, q4, q5, q6, q7, q8, q9, q10⟩ := HW.out.2.cells
                go_wp2_with fail
                have RR := HR.out.below HW.out.1
                refine (table_inChunk.calls k t.f0 d.A1 d.c1 t.f1 d.A2 d.c2 t.f2 d.A3 d.c3 t.f3 t.f4 t.f5 d.A6 d.c6 t.f6 d.A7 d.c7 t.f7 d.A8 d.c8 t.f8 d.A9 d.c9 t.f9 d.A10 d.c10 t.f10 (c : Int) mc wr RR.r1 RR.c1 RR.r2 RR.c2 RR.r3 RR.c3 RR.r6 RR.c6 RR.r7 RR.c7 RR.r8 RR.c8 RR.r9 RR.c9 RR.r10 RR.c10 HMC.out).mono ?_
                rintro e w8 ⟨rfl, hb⟩
                have B8 := Aside0.mk (below_step HW.out.1 hb)
                have K8 := Aside0.mk (HW.out.2.below hb)
                clear hb RR q0 q1 q2 q3 q4 q5 q6 q7 q8 q9 q10
                go_wp2_with fail
                go_roundg (t.f8.length - (c + 1) + 1)
                case measure => have := HQ.out; have := HJ1.out; omega
                case rel => exact ⟨c + 1, by first | (rw [HCS.out]; done) | (rw [HCS.out]; simp; done), by first | rfl | rw [e8], ⟨rfl⟩, ⟨HJ1.out⟩, ⟨⟨B8.out, K8.out⟩⟩⟩
              · have hj1 : decide ((c : Int) < (t.f8.length : Int)) = false := decide_eq_false (by omega)
                have hj2 : decide (c < t.f8.length) = false := decide_eq_false hj
                have hj3 : (c < t.f8.length) = False := eq_false hj
                have hce : c = t.f8.length := by have := HI.out; omega
                have HCE := Aside0.mk hce
                clear hj hce
                go_wp2_with fail
                go_ret
                exact ⟨by rw [countsB, HB1.out, HB2.out, HSY.out, HE.out, HCF.out, ← HCE.out]; first | done | rfl | (simp; done), HW.out.1⟩
      · have hE1 : (!(decide (0 < t.f7.length) == decide (0 < t.f8.length))) = true := by simp [hE]
        have HE : Aside0 ((decide (0 < t.f7.length) == decide (0 < t.f8.length)) = false) := ⟨by simp [hE]⟩
        clear hE
        go_wp2_with fail
        go_ret
        exact ⟨by rw [countsB, HB1.out, HB2.out, HSY.out, HE.out]; rfl, B3.out⟩
end Go.Proofs.Ytmbhafgnmdfjhaa.QTab
