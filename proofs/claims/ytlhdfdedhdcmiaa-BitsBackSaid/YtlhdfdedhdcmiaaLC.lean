/- A lemma file: the law BitsBack, walked. No condition. -/
import Derived.Test.YtlhdfdedhdcmiaaPXr
import Derived.Deep.CutRange
import Derived.Test.YtlhdfdedhdcmiaaVPlain
import Derived.Test.YtlhdfdedhdcmiaaQBitsx33
import Derived.Test.YtlhdfdedhdcmiaaQBitsx35
import Derived.Test.YtlhdfdedhdcmiaaQBitsx40
import Derived.Test.YtlhdfdedhdcmiaaQBitsx42
import Derived.Test.YtlhdfdedhdcmiaaQBitsx44
import Derived.Test.YtlhdfdedhdcmiaaQBitsx45
import Derived.Test.YtlhdfdedhdcmiaaQBitsx45
import Derived.Test.YtlhdfdedhdcmiaaQBitsx10
namespace Go.Proofs.Ytlhdfdedhdcmiaa.QBits
open Go.RowKit Go.Proofs.YtlhdfdedhdcmiaaW.PrintWords Go.Proofs.YtlhdfdedhdcmiaaW.PrintLast Go.Proofs.YtlhdfdedhdcmiaaW.PrintMore Go.Proofs.YtlhdfdedhdcmiaaV
set_option linter.unusedVariables false
set_option linter.unusedSimpArgs false
def skipB (o : S56) : Bool := (o.f0 == 1 && decide (2000 < o.f1)) || (o.f0 == 2 && decide (0 ≤ o.f1) && decide (o.f1 ≤ 24) && decide (2000 < o.f2 / 2 ^ o.f1.toNat))
def opsOk (l : List S56) : Bool := l.all fun o => decide (o.f1 ≤ 9223372036854775807) && decide (o.f2 ≤ 9223372036854775807)
/-- What is written, and which calls it was. -/
def doneF : List S56 → List S56 × List Bool → List S56 × List Bool
  | [], s => s
  | o :: t, s => doneF t (if skipB o then s else ((if (writeF o s.2).1 = 0 then s.1 ++ [o] else s.1), (writeF o s.2).2))
def backStep (k : Nat) (b : List Int) (a : Int) (o : S56) : Option Int :=
  if o.f0 = 0 then (bits_Reader_Get.f k b a o.f1).bind fun p => if p.1 = o.f2 ∧ p.2.1 = 0 then some p.2.2 else none
  else if o.f0 = 1 then (bits_Reader_Unary.f k b a 2000).bind fun p => if p.1 = o.f1 ∧ p.2.1 = 0 then some p.2.2 else none
  else if o.f0 = 2 then (bits_Reader_Rice.f k b a o.f1 o.f2).bind fun p => if p.1 = o.f2 ∧ p.2.1 = 0 then some p.2.2 else none
  else if o.f0 = 3 then (bits_Reader_Grow.f k b a).bind fun p => if p.1 = o.f2 ∧ p.2.1 = 0 then some p.2.2 else none
  else bits_Reader_Align.f b a
def backLoop (k : Nat) (b : List Int) : Int → List S56 → Option Int
  | a, [] => some a
  | a, o :: t => (backStep k b a o).bind fun a' => backLoop k b a' t
def dioramalaw01_BitsBack.f (k : Nat) (l0 : List S56) (l1 : List Int) : Option (Bool) :=
  if (l0.length : Int) > 200 then some true else if (l1.length : Int) > 400 then some true else
  if opsOk l0 = true then
    (dioramaref00_CopyBytes.f k (packB (doneF l0 ([], [])).2)).bind fun b => if b = packB (doneF l0 ([], [])).2 then
      (backLoop k (b ++ l1) 0 (doneF l0 ([], [])).1).bind fun a => if a = ((doneF l0 ([], [])).2.length : Int) then dioramalaw01_awake.f k else none
    else none
  else none
theorem opsOk_at {l : List S56} {i : Nat} (hi : i < l.length) (h : opsOk l = true) : (rd_T56 l (i : Int)).f1 ≤ 9223372036854775807 ∧ (rd_T56 l (i : Int)).f2 ≤ 9223372036854775807 := by
  have h1 := List.all_eq_true.mp h l[i] (List.getElem_mem hi)
  have e : rd_T56 l (i : Int) = l[i] := by
    unfold rd_T56
    rw [Int.toNat_natCast, List.getD_eq_getElem?_getD, List.getElem?_eq_getElem hi]
    rfl
  rw [e]
  simpa using h1
theorem drop_T56 {l : List S56} {i : Nat} (hi : i < l.length) : l.drop i = rd_T56 l (i : Int) :: l.drop (i + 1) := by
  rw [List.drop_eq_getElem_cons hi]
  congr 1
  unfold rd_T56
  rw [Int.toNat_natCast, List.getD_eq_getElem?_getD, List.getElem?_eq_getElem hi]
  rfl
theorem R_moved {α : Type} {d : Kd α} {e : Nat} {W W' : World} {base : Nat} {F F' : Nat → Prop} {v : Value} {xs : List α} (h : d.R e W base (fun k => ¬ F k) v xs) (hM : Moved W W' F F') : d.R e W' base (fun k => ¬ F' k) v xs :=
  Kd.R_mono (Kd.R_step (Kd.R_bound h) (fun k hk hlt => hM.block k hlt hk.1)) (fun k hk hF => (hM.sub k hF).elim hk.1 (fun hs => absurd hk.2.2.1 (by omega)))
theorem at_quiet2 {g : Nat} {l : List Int} {a : Int} {w0 w : World} (hI : IsS81 w0 w g l a) : Calls Try.prog 48 #[.pointer (some ⟨g, 0, none⟩)] w fun e w' => e = .returned (.int .i64 a) ∧ ∃ m, w' = w.drewN m := by
  obtain ⟨A, c, HG, _, _⟩ := hI
  have h0 := cellS81_0 HG
  have h1 := cellS81_1 HG
  clear HG
  go_enter Try.func48, Try.ntmps48
  go_wp2
  go_ret
  exact ⟨rfl, 0, rfl⟩
structure BK (w4 : World) (l : List Int) (g b : Nat) (o : S56) (W : World) (a : Int) : Prop where
  p : IsS81 w4 W g l a
  box : W.heap[b]? = some (.cells #[.int .i64 o.f0, .int .i64 o.f1, .int .i64 o.f2] 56)
  bel : Below w4.heap.size w4 W
  n2 : b ≠ g
theorem BK.step {w4 : World} {l : List Int} {g b : Nat} {o : S56} {W W' : World} {a a' : Int} (h : BK w4 l g b o W a) (hI : IsS81 w4 W' g l a') (hB : Below w4.heap.size w4 W') (hK : KeepBut W W' g none) : BK w4 l g b o W' a' :=
  ⟨hI, (hK.2 b (Array.getElem?_eq_some_iff.mp h.box).1 h.n2 (by simp)).trans h.box, hB, h.n2⟩
theorem BK.cells {w4 : World} {l : List Int} {g b : Nat} {o : S56} {W : World} {a : Int} (h : BK w4 l g b o W a) : W.cell? ⟨b, 0, none⟩ = some (.int .i64 o.f0) ∧ W.cell? ⟨b, 1, none⟩ = some (.int .i64 o.f1) ∧ W.cell? ⟨b, 2, none⟩ = some (.int .i64 o.f2) :=
  ⟨(blk_cell h.box 0).trans rfl, (blk_cell h.box 1).trans rfl, (blk_cell h.box 2).trans rfl⟩
theorem BK.new {w4 W : World} {l : List Int} {g : Nat} {o : S56} {a : Int} (hp : IsS81 w4 W g l a) (hB : Below w4.heap.size w4 W) : BK w4 l g W.heap.size o (W.alloc (.cells #[.int .i64 o.f0, .int .i64 o.f1, .int .i64 o.f2] 56)) a :=
  ⟨hp.alloc _, by simpa using heap_alloc_new W _, below_alloc hB _, Nat.ne_of_gt hp.lt⟩
theorem BK.drew {w4 W : World} {l : List Int} {g b : Nat} {o : S56} {a : Int} (h : BK w4 l g b o W a) : BK w4 l g b o W.drew a := ⟨h.p, h.box, below_drew h.bel, h.n2⟩
theorem BK.drewN {w4 W : World} {l : List Int} {g b : Nat} {o : S56} {a : Int} (h : BK w4 l g b o W a) (m : Nat) : BK w4 l g b o (W.drewN m) a := ⟨h.p, h.box, pw_below_drewN h.bel m, h.n2⟩
theorem info56 : (Try.prog.info? 56).map (fun i => (i.zero, i.size, i.bytes)) = some (some (.agg #[.int .i64 0, .int .i64 0, .int .i64 0]), 3, 24) := by kernel_rfl
set_option maxHeartbeats 4000000 in
set_option maxRecDepth 100000 in
theorem dioramalaw01_BitsBack.calls (k : Nat) (A0 : Option Addr) (c0 : Nat) (l0 : List S56) (A1 : Option Addr) (c1 : Nat) (l1 : List Int) (r : Bool) (w : World) (hr0 : Kd.C k56 w A0 l0.length l0) (hc0 : l0.length ≤ c0) (hr1 : Kd.C (Kd.int .u8) w A1 l1.length l1) (hc1 : l1.length ≤ c1) (h : dioramalaw01_BitsBack.f k l0 l1 = some r) :
    Calls Try.prog 12 #[.slice A0 l0.length c0, .slice A1 l1.length c1] w fun e w' => e = .returned (.bool r) ∧ Below w.heap.size w w' := by
  have HR0 := Aside0.mk hr0
  have HC0 := Aside0.mk hc0
  have HR1 := Aside0.mk hr1
  have HC1 := Aside0.mk hc1
  clear hr0 hc0 hr1 hc1
  unfold dioramalaw01_BitsBack.f at h
  by_cases c2 : (l0.length : Int) > 200
  · rw [if_pos c2] at h
    obtain rfl := Option.some.inj h
    have c2b0 : decide (200 < (l0.length : Int)) = true := decide_eq_true c2
    have c2b1 : decide (200 < l0.length) = true := decide_eq_true (by omega)
    clear c2
    go_enter Try.func12, Try.ntmps12
    go_wp2
    go_ret
    exact ⟨rfl, Below.refl _ _⟩
  · rw [if_neg c2] at h
    have c2b0 : decide (200 < (l0.length : Int)) = false := decide_eq_false c2
    have c2b1 : decide (200 < l0.length) = false := decide_eq_false (by omega)
    have hL := Aside0.mk (show l0.length ≤ 200 by omega)
    clear c2
    by_cases c4 : (l1.length : Int) > 400
    · rw [if_pos c4] at h
      obtain rfl := Option.some.inj h
      have c4b0 : decide (400 < (l1.length : Int)) = true := decide_eq_true c4
      have c4b1 : decide (400 < l1.length) = true := decide_eq_true (by omega)
      clear c4
      go_enter Try.func12, Try.ntmps12
      go_wp2
      go_ret
      exact ⟨rfl, Below.refl _ _⟩
    rw [if_neg c4] at h
    have c4b0 : decide (400 < (l1.length : Int)) = false := decide_eq_false c4
    have c4b1 : decide (400 < l1.length) = false := decide_eq_false (by omega)
    have hL1 := Aside0.mk (show l1.length ≤ 400 by omega)
    clear c4
    by_cases c3 : opsOk l0 = true
    · rw [if_pos c3] at h
      obtain ⟨b, hb1, h⟩ := Option.bind_eq_some_iff.mp h
      by_cases eb : b = packB (doneF l0 ([], [])).2
      · rw [if_pos eb] at h
        obtain ⟨a9, hb2, h⟩ := Option.bind_eq_some_iff.mp h
        by_cases ea : a9 = ((doneF l0 ([], [])).2.length : Int)
        · rw [if_pos ea] at h
          have HW := Aside0.mk h
          have HO := Aside0.mk c3
          obtain ⟨dn, hdn⟩ : ∃ dn, dn = doneF l0 ([], []) := ⟨_, rfl⟩
          rw [← hdn] at hb1 hb2 eb ea
          subst eb ea
          have HCB := Aside0.mk hb1
          have HBL := Aside0.mk hb2
          have HDN := Aside0.mk hdn
          clear c3 hb1 hb2 hdn
          clear h
          go_enter Try.func12, Try.ntmps12
          go_wp2_with fail
          refine (new_calls _).mono ?_
          rintro e w1 ⟨g, F, rfl, hI, hB⟩
          have HI := Aside0.mk hI
          have HB := Aside0.mk hB
          clear hI hB
          go_wp2_with fail
          go_loopg [6, 7] (l0.length + 1) (fun kq v6 v7 w' => ∃ (i : Nat) (F : Nat → Prop) (B : List Bool) (ds : List S56), v7 = .int .i64 (i : Int) ∧ Aside0 (kq = l0.length - i + 1) ∧ Aside0 (IsW w' w.heap.size F g B) ∧ Aside0 (Kd.R k56 56 w' w.heap.size (fun k => ¬ F k) v6 ds) ∧ Aside0 (Below w.heap.size w w') ∧ Aside0 (doneF (l0.drop i) (ds, B) = dn) ∧ Aside0 (B.length ≤ 8388608 ∧ ds.length ≤ i ∧ i ≤ l0.length))
          case atStart =>
            exact ⟨0, F, [], [], rfl, ⟨rfl⟩, ⟨HI.out⟩, ⟨Kd.R_nil _ _ _ _ _⟩, ⟨HB.out⟩, ⟨by rw [List.drop_zero]; exact HDN.out.symm⟩, ⟨⟨by simp, by simp, by simp⟩⟩⟩
          case round =>
            obtain ⟨i, Fi, B, ds, rfl, HQ, HIw, HD, HBw, HE, HN⟩ := hrel
            obtain ⟨Ad, cd, rfl⟩ := Kd.R_slice HD.out
            by_cases hi : i < l0.length
            · obtain ⟨ad, e0, x0, x1, x2⟩ := at_T56 (Kd.C_below HR0.out HBw.out) (i : Int) (by omega) (by omega)
              cases e0
              rw [Int.toNat_natCast] at x0 x1 x2
              have hi1 : decide ((i : Int) < (l0.length : Int)) = true := decide_eq_true (by omega)
              have hi2 : decide (i < l0.length) = true := decide_eq_true hi
              have HI1 := Aside0.mk hi
              have HOK := Aside0.mk (opsOk_at hi HO.out)
              have HE2 := Aside0.mk (show doneF (rd_T56 l0 (i : Int) :: l0.drop (i + 1)) (ds, B) = dn by rw [← drop_T56 hi]; exact HE.out)
              clear HE
              generalize rd_T56 l0 (i : Int) = o at x0 x1 x2 HOK HE2
              have HI2 := Aside0.mk (HIw.out.below (below_alloc (Below.refl _ wr) (.cells #[.int .i64 o.f0, .int .i64 o.f1, .int .i64 o.f2] 56)))
              have HD2 := Aside0.mk (R_moved HD.out (Moved.of_below (below_alloc (Below.refl _ wr) (.cells #[.int .i64 o.f0, .int .i64 o.f1, .int .i64 o.f2] 56))))
              have HB2 := Aside0.mk (below_alloc HBw.out (.cells #[.int .i64 o.f0, .int .i64 o.f1, .int .i64 o.f2] 56))
              have HX2 := Aside0.mk (show (wr.alloc (.cells #[.int .i64 o.f0, .int .i64 o.f1, .int .i64 o.f2] 56)).heap[wr.heap.size]? = some (.cells #[.int .i64 o.f0, .int .i64 o.f1, .int .i64 o.f2] 56 (0, 0)) by simpa using heap_alloc_new wr (.cells #[.int .i64 o.f0, .int .i64 o.f1, .int .i64 o.f2] 56))
              have HF2 : Aside0 (¬ Fi wr.heap.size) := ⟨fun hk => Nat.lt_irrefl _ (HIw.out.ge _ hk).2⟩
              go_upto_region 11 with fail
              go_cut [68] from 27 to 76 (fun s68 w' => s68 = .bool (skipB o) ∧ Aside0 (w' = wr.alloc (.cells #[.int .i64 o.f0, .int .i64 o.f1, .int .i64 o.f2] 56)))
              case first =>
                by_cases a1 : o.f0 = 1
                · have p1 : (o.f0 == 1) = true := beq_iff_eq.mpr a1
                  have HA1 := Aside0.mk a1
                  have p1n : (o.f0 == 2) = false := beq_eq_false_iff_ne.mpr (by omega)
                  have hsk : skipB o = decide (2000 < o.f1) := by simp [skipB, p1, p1n]
                  clear a1
                  by_cases a2 : 2000 < o.f1
                  · have p2 : decide (2000 < o.f1) = true := decide_eq_true a2
                    rw [p2] at hsk
                    clear a2
                    have HSK := Aside0.mk hsk
                    clear hsk
                    go_wp2_with fail
                    go_meet
                    case rel => exact ⟨by first | (rw [HSK.out]; done) | (rw [HSK.out]; first | rfl | (have h9 := HA8.out; simp; omega)), ⟨by first | rfl | rw [HA1.out] | rw [HA4.out]⟩⟩
                  · have p2 : decide (2000 < o.f1) = false := decide_eq_false a2
                    rw [p2] at hsk
                    clear a2
                    have HSK := Aside0.mk hsk
                    clear hsk
                    go_wp2_with fail
                    go_meet
                    case rel => exact ⟨by first | (rw [HSK.out]; done) | (rw [HSK.out]; first | rfl | (have h9 := HA8.out; simp; omega)), ⟨by first | rfl | rw [HA1.out] | rw [HA4.out]⟩⟩
                · have p1 : (o.f0 == 1) = false := beq_eq_false_iff_ne.mpr a1
                  clear a1
                  by_cases a4 : o.f0 = 2
                  · have p4 : (o.f0 == 2) = true := beq_iff_eq.mpr a4
                    have HA4 := Aside0.mk a4
                    clear a4
                    have hsk : skipB o = (decide (0 ≤ o.f1) && decide (o.f1 ≤ 24) && decide (2000 < o.f2 / 2 ^ o.f1.toNat)) := by simp [skipB, p1, p4]
                    by_cases a5 : 0 ≤ o.f1
                    · have p5 : decide (0 ≤ o.f1) = true := decide_eq_true a5
                      have HA5 := Aside0.mk a5
                      clear a5
                      by_cases a6 : o.f1 ≤ 24
                      · have p6 : decide (o.f1 ≤ 24) = true := decide_eq_true a6
                        have eu : IntKind.u64.wrap o.f1 = o.f1 := by have := HA5.out; rw [IntKind.wrap_u64]; omega
                        have em : min o.f1.toNat 64 = o.f1.toNat := by have := HA5.out; omega
                        have q5 := eq_true HA5.out
                        clear a6
                        by_cases a8 : 2000 < o.f2 / 2 ^ o.f1.toNat
                        · have p8 : decide (2000 < o.f2 / 2 ^ o.f1.toNat) = true := decide_eq_true a8
                          have HA8 := Aside0.mk a8
                          rw [p5, p6, p8] at hsk
                          clear a8
                          have HSK := Aside0.mk hsk
                          clear hsk
                          go_wp2_with fail
                          go_meet
                          case rel => exact ⟨by first | (rw [HSK.out]; done) | (rw [HSK.out]; first | rfl | (have h9 := HA8.out; simp; omega)), ⟨by first | rfl | rw [HA1.out] | rw [HA4.out]⟩⟩
                        · have p8 : decide (2000 < o.f2 / 2 ^ o.f1.toNat) = false := decide_eq_false a8
                          have HA8 := Aside0.mk a8
                          rw [p5, p6, p8] at hsk
                          clear a8
                          have HSK := Aside0.mk hsk
                          clear hsk
                          go_wp2_with fail
                          go_meet
                          case rel => exact ⟨by first | (rw [HSK.out]; done) | (rw [HSK.out]; first | rfl | (have h9 := HA8.out; simp; omega)), ⟨by first | rfl | rw [HA1.out] | rw [HA4.out]⟩⟩
                      · have p6 : decide (o.f1 ≤ 24) = false := decide_eq_false a6
                        rw [p5, p6] at hsk
                        clear a6
                        have HSK := Aside0.mk hsk
                        clear hsk
                        go_wp2_with fail
                        go_meet
                        case rel => exact ⟨by first | (rw [HSK.out]; done) | (rw [HSK.out]; first | rfl | (have h9 := HA8.out; simp; omega)), ⟨by first | rfl | rw [HA1.out] | rw [HA4.out]⟩⟩
                    · have p5 : decide (0 ≤ o.f1) = false := decide_eq_false a5
                      rw [p5] at hsk
                      clear a5
                      have HSK := Aside0.mk hsk
                      clear hsk
                      go_wp2_with fail
                      go_meet
                      case rel => exact ⟨by first | (rw [HSK.out]; done) | (rw [HSK.out]; first | rfl | (have h9 := HA8.out; simp; omega)), ⟨by first | rfl | rw [HA1.out] | rw [HA4.out]⟩⟩
                  · have p4 : (o.f0 == 2) = false := beq_eq_false_iff_ne.mpr a4
                    have hsk : skipB o = false := by simp [skipB, p1, p4]
                    clear a4
                    have HSK := Aside0.mk hsk
                    clear hsk
                    go_wp2_with fail
                    go_meet
                    case rel => exact ⟨by first | (rw [HSK.out]; done) | (rw [HSK.out]; first | rfl | (have h9 := HA8.out; simp; omega)), ⟨by first | rfl | rw [HA1.out] | rw [HA4.out]⟩⟩
              case rest =>
                obtain ⟨rfl, HWC⟩ := hcut
                have hwc := HWC.out
                rw [← hwc] at HI2 HD2 HB2 HX2
                clear hwc HWC
                have e8 : wrap64 ((i : Int) + 1) = ((i + 1 : Nat) : Int) := by have := HI1.out; have := hL.out; unfold wrap64; omega
                cases hsk : skipB o with
                | true =>
                  go_wp2_with fail
                  go_roundg (l0.length - (i + 1) + 1)
                  case measure => have := HQ.out; have := HI1.out; omega
                  case rel =>
                    refine ⟨i + 1, Fi, B, ds, by rw [e8], ⟨rfl⟩, HI2, HD2, HB2, ⟨?_⟩, ⟨⟨HN.out.1, by have := HN.out.2; omega, HI1.out⟩⟩⟩
                    have h9 := HE2.out
                    simp only [doneF, hsk, if_true] at h9
                    exact h9
                | false =>
                  have y0 : wc.cell? ⟨wr.heap.size, 0, none⟩ = some (.int .i64 o.f0) := (blk_cell HX2.out 0).trans rfl
                  have y1 : wc.cell? ⟨wr.heap.size, 1, none⟩ = some (.int .i64 o.f1) := (blk_cell HX2.out 1).trans rfl
                  have y2 : wc.cell? ⟨wr.heap.size, 2, none⟩ = some (.int .i64 o.f2) := (blk_cell HX2.out 2).trans rfl
                  go_wp2_with fail
                  refine (write_calls HI2.out (Nat.le_trans HBw.out.size (by have := (blk_lt HX2.out); omega)) HN.out.1 o HOK.out.2).mono ?_
                  rintro e w2 ⟨rfl, F2, I2, M2⟩
                  have HI3 := Aside0.mk I2
                  have HD3 := Aside0.mk (R_moved HD2.out M2)
                  have HB3 := Aside0.mk (HB2.out.trans (M2.below (fun k hk => (HI2.out.ge k hk).1) (Nat.le_trans HBw.out.size (by have := (blk_lt HX2.out); omega))))
                  have HX3 := Aside0.mk ((M2.block _ (blk_lt HX2.out) HF2.out).trans HX2.out)
                  have HS3 : Aside0 (w.heap.size ≤ w2.heap.size) := ⟨Nat.le_trans HBw.out.size (by have := (blk_lt HX2.out); have := M2.size; omega)⟩
                  clear I2 M2 y0 y1 y2 HI2 HD2 HB2 HX2
                  by_cases ez : (writeF o B).1 = 0
                  · have ez1 : ((writeF o B).1 == 0) = true := beq_iff_eq.mpr ez
                    have y0 : w2.cell? ⟨wr.heap.size, 0, none⟩ = some (.int .i64 o.f0) := (blk_cell HX3.out 0).trans rfl
                    have y1 : w2.cell? ⟨wr.heap.size, 1, none⟩ = some (.int .i64 o.f1) := (blk_cell HX3.out 1).trans rfl
                    have y2 : w2.cell? ⟨wr.heap.size, 2, none⟩ = some (.int .i64 o.f2) := (blk_cell HX3.out 2).trans rfl
                    have HEZ := Aside0.mk ez
                    clear ez
                    go_wp2_with (at_builtin; refine Kd.R_append k56 (w0 := w) (W := w2) w.heap.size rfl (.tmp 73) (.tmp 75) 49 56 (.agg #[.int .i64 0, .int .i64 0, .int .i64 0]) 24 rfl Try.underlying49 info56 rfl (by decide) (by decide) _ ds o [.int .i64 o.f0, .int .i64 o.f1, .int .i64 o.f2] (fun k => ¬ F2 k) (fun _ => False) rfl rfl (k56_mkM _ _ _ _) (fun _ h => h.elim) (fun k hk hF => absurd (HI3.out.ge k hF).2 (by omega)) HD3.out HB3.out HS3.out (by have := HN.out.2; have := hL.out; omega) ?_)
                    intro v1 w3 hD hB hG hat
                    obtain ⟨A3, c3, rfl⟩ := Kd.R_slice hD
                    have HD4 := Aside0.mk hD
                    have HB4 := Aside0.mk hB
                    have HI4 := Aside0.mk (HI3.out.same hG.size (fun k hk hF => hG.block k hk (fun e => HD3.out.1 k e.symm hF)))
                    clear hD hB hG hat HI3 HD3 HB3 HX3
                    go_wp2_with fail
                    go_roundg (l0.length - (i + 1) + 1)
                    case measure => have := HQ.out; have := HI1.out; omega
                    case rel =>
                      refine ⟨i + 1, F2, (writeF o B).2, ds ++ [o], by rw [e8], ⟨rfl⟩, HI4, ⟨?_⟩, HB4, ⟨?_⟩, ⟨⟨writeF_length o B HN.out.1 HOK.out.2, by have := HN.out.2; simp; omega, HI1.out⟩⟩⟩
                      · simpa using HD4.out
                      · have h9 := HE2.out
                        simp only [doneF, hsk, Bool.false_eq_true, if_false, if_pos HEZ.out] at h9
                        exact h9
                  · have ez1 : ((writeF o B).1 == 0) = false := beq_eq_false_iff_ne.mpr ez
                    have HEZ := Aside0.mk ez
                    clear ez
                    go_wp2_with fail
                    go_roundg (l0.length - (i + 1) + 1)
                    case measure => have := HQ.out; have := HI1.out; omega
                    case rel =>
                      refine ⟨i + 1, F2, (writeF o B).2, ds, by rw [e8], ⟨rfl⟩, HI3, HD3, HB3, ⟨?_⟩, ⟨⟨writeF_length o B HN.out.1 HOK.out.2, by have := HN.out.2; omega, HI1.out⟩⟩⟩
                      have h9 := HE2.out
                      simp only [doneF, hsk, Bool.false_eq_true, if_false, if_neg HEZ.out] at h9
                      exact h9
            · have hi1 : decide ((i : Int) < (l0.length : Int)) = false := decide_eq_false (by omega)
              have hi2 : decide (i < l0.length) = false := decide_eq_false hi
              have hz : i = l0.length := by have := HN.out.2.2; omega
              have he : (ds, B) = dn := by have h9 := HE.out; rw [hz, List.drop_length] at h9; exact h9
              subst he
              have HDL : Aside0 (ds.length ≤ 200) := ⟨by have := HN.out.2.1; have := hL.out; omega⟩
              clear hi hz
              go_wp2_with fail
              refine (bytes_calls HIw.out (by have := HN.out.1; omega)).mono ?_
              rintro e w2 ⟨v0, rfl, o0, b0⟩
              obtain ⟨Aa, ca, rfl⟩ := Kd.R_slice o0
              have O0 := Aside0.mk o0
              have B0 := Aside0.mk b0
              clear o0 b0
              go_wp2_with fail
              refine (dioramaref00_CopyBytes.calls k Aa ca (packB B) (packB B) _ (Kd.R_reads' O0.out).2.2 (Kd.R_reads' O0.out).2.1 HCB.out).mono ?_
              rintro e w3 ⟨v1, rfl, o1, b1⟩
              have O1 := Aside0.mk o1
              have B1 := Aside0.mk b1
              have info5 : (Try.prog.info? 5).map (fun i => (i.zero, i.size, i.bytes)) = some (some (.int .u8 0), 1, 1) := by kernel_rfl
              have BW2 := Aside0.mk (below_step HBw.out B0.out)
              have HR3 := Aside0.mk (Kd.C_below HR1.out (below_step BW2.out b1))
              have HI2 := Aside0.mk (HIw.out.below B0.out)
              have HD2 := Aside0.mk (R_moved HD.out (Moved.of_below B0.out))
              clear o1 b1 HIw HD O0 HCB
              go_wp2_with (at_builtin; refine Kd.R_append_rows (Kd.int .u8) (Rr := (Kd.int .u8).K w3) (w0 := w2) (W := w3) w2.heap.size rfl (.tmp 80) (.tmp 81) 22 5 (.int .u8 0) 1 rfl Try.underlying22 info5 rfl (by decide) (by decide) v1 (packB B) l1 A1 l1.length c1 (fun _ => True) (fun _ => False) rfl rfl O1.out HR3.out (fun x cs h => h) (fun _ h => h.elim) (fun _ _ => trivial) B1.out B1.out.size (by have := HN.out.1; have := hL1.out; rw [packB_length]; omega) ?_)
              intro v2 w4 hR4 hB4 hG hat
              obtain ⟨Ab, cb, rfl⟩ := Kd.R_slice hR4
              have O4 := Aside0.mk hR4
              have B4 := Aside0.mk hB4
              have HI4 := Aside0.mk (HI2.out.below hB4)
              have HD4 := Aside0.mk (R_moved HD2.out (Moved.of_below hB4))
              have BW4 := Aside0.mk (below_step BW2.out hB4)
              clear hR4 hB4 hG hat O1 B1 HR3 HI2 HD2 BW2 info5
              generalize hlb : packB B ++ l1 = lb at O4 HBL ⊢
              have HLB := Aside0.mk hlb
              clear hlb
              go_wp2_with fail
              refine (bits_NewReader.calls Ab cb lb lb 0 w4 _ (Below.refl _ _) (Kd.R_reads' O4.out).2.2 (Kd.R_reads' O4.out).2.1 rfl).mono ?_
              rintro e w5 ⟨g2, rfl, hI5, hB5, -⟩
              have HI5 := Aside0.mk hI5
              have HB5 := Aside0.mk hB5
              clear hI5 hB5
              go_wp2_with fail
              go_loopg [11] (ds.length + 1) (fun kq v11 w' => ∃ (i : Nat) (a : Int), v11 = .int .i64 (i : Int) ∧ Aside0 (kq = ds.length - i + 1) ∧ Aside0 (IsS81 w4 w' g2 lb a) ∧ Aside0 (Below w4.heap.size w4 w') ∧ Aside0 (backLoop k lb a (ds.drop i) = some (B.length : Int)) ∧ Aside0 (i ≤ ds.length))
              case atStart =>
                exact ⟨0, 0, rfl, ⟨rfl⟩, HI5, HB5, ⟨by rw [List.drop_zero]; exact HBL.out⟩, ⟨Nat.zero_le _⟩⟩
              case round =>
                obtain ⟨j, a, rfl, HQ, HI6, HB6, HL6, HJ⟩ := hrel
                clear HBL HI5 HB5 HN
                have e8 : wrap64 ((j : Int) + 1) = ((j + 1 : Nat) : Int) := by have := HJ.out; have := HDL.out; unfold wrap64; omega
                by_cases hj : j < ds.length
                · obtain ⟨ad, e0, x0, x1, x2⟩ := at_T56 (Kd.C_below (Kd.R_reads' HD4.out).2.2 HB6.out) (j : Int) (by omega) (by omega)
                  cases e0
                  rw [Int.toNat_natCast] at x0 x1 x2
                  have hj1 : decide ((j : Int) < (ds.length : Int)) = true := decide_eq_true (by omega)
                  have hj2 : decide (j < ds.length) = true := decide_eq_true hj
                  have HJ1 := Aside0.mk hj
                  have h7 := HL6.out
                  rw [drop_T56 hj] at h7
                  simp only [backLoop] at h7
                  obtain ⟨a', hs, h8⟩ := Option.bind_eq_some_iff.mp h7
                  have HS := Aside0.mk hs
                  have HL7 := Aside0.mk h8
                  clear h7 hs h8 HL6
                  generalize rd_T56 ds (j : Int) = o at x0 x1 x2 HS
                  have R0 := Aside0.mk (BK.new (o := o) HI6.out HB6.out)
                  unfold backStep at HS
                  go_wp2_with fail
                  generalize wr.alloc (.cells #[.int .i64 o.f0, .int .i64 o.f1, .int .i64 o.f2] 56) = W0 at R0 ⊢
                  obtain ⟨y0, y1, y2⟩ := R0.out.cells
                  go_region
                  have R1 := Aside0.mk R0.out.drew
                  clear R0
                  have hs := HS.out
                  by_cases d0 : o.f0 = 0
                  · rw [if_pos d0] at hs
                    have d0b : (o.f0 == 0) = true := beq_iff_eq.mpr d0
                    clear d0
                    obtain ⟨p, hp, h9⟩ := Option.bind_eq_some_iff.mp hs
                    obtain ⟨p1, p2, p3⟩ := p
                    by_cases hc : p1 = o.f2 ∧ p2 = 0
                    · rw [if_pos hc] at h9
                      obtain rfl := Option.some.inj h9
                      obtain ⟨hc1, rfl⟩ := hc
                      have HC := Aside0.mk hc1
                      have HP := Aside0.mk hp
                      clear hs hp HS h9 hc1
                      go_wp2_with fail
                      refine (bits_Reader_Get.calls k g2 lb a o.f1 p1 0 p3 w4 _ R1.out.p R1.out.bel HP.out).mono ?_
                      rintro e w7 ⟨rfl, hI, hB, hK⟩
                      have R2 := Aside0.mk (R1.out.step hI hB hK)
                      clear R1 hI hB hK
                      obtain ⟨z0, z1, z2⟩ := R2.out.cells
                      have hc2 := HC.out
                      subst hc2
                      go_wp2_with fail
                      go_roundg (ds.length - (j + 1) + 1)
                      case measure => have := HQ.out; have := HJ1.out; omega
                      case rel =>
                        exact ⟨j + 1, p3, by rw [e8], ⟨rfl⟩, ⟨R2.out.p⟩, ⟨R2.out.bel⟩, HL7, ⟨HJ1.out⟩⟩
                    · rw [if_neg hc] at h9; cases h9
                  · rw [if_neg d0] at hs
                    have d0b : (o.f0 == 0) = false := beq_eq_false_iff_ne.mpr d0
                    clear d0
                    by_cases d1 : o.f0 = 1
                    · rw [if_pos d1] at hs
                      have d1b : (o.f0 == 1) = true := beq_iff_eq.mpr d1
                      clear d1
                      obtain ⟨p, hp, h9⟩ := Option.bind_eq_some_iff.mp hs
                      obtain ⟨p1, p2, p3⟩ := p
                      by_cases hc : p1 = o.f1 ∧ p2 = 0
                      · rw [if_pos hc] at h9
                        obtain rfl := Option.some.inj h9
                        obtain ⟨hc1, rfl⟩ := hc
                        have HC := Aside0.mk hc1
                        have HP := Aside0.mk hp
                        clear hs hp HS h9 hc1
                        go_wp2_with fail
                        refine (bits_Reader_Unary.calls k g2 lb a 2000 p1 0 p3 w4 _ R1.out.p R1.out.bel HP.out).mono ?_
                        rintro e w7 ⟨rfl, hI, hB, hK⟩
                        have R2 := Aside0.mk (R1.out.step hI hB hK)
                        clear R1 hI hB hK
                        obtain ⟨z0, z1, z2⟩ := R2.out.cells
                        have hc2 := HC.out
                        subst hc2
                        go_wp2_with fail
                        go_roundg (ds.length - (j + 1) + 1)
                        case measure => have := HQ.out; have := HJ1.out; omega
                        case rel =>
                          exact ⟨j + 1, p3, by rw [e8], ⟨rfl⟩, ⟨R2.out.p⟩, ⟨R2.out.bel⟩, HL7, ⟨HJ1.out⟩⟩
                      · rw [if_neg hc] at h9; cases h9
                    · rw [if_neg d1] at hs
                      have d1b : (o.f0 == 1) = false := beq_eq_false_iff_ne.mpr d1
                      clear d1
                      by_cases d2 : o.f0 = 2
                      · rw [if_pos d2] at hs
                        have d2b : (o.f0 == 2) = true := beq_iff_eq.mpr d2
                        clear d2
                        obtain ⟨p, hp, h9⟩ := Option.bind_eq_some_iff.mp hs
                        obtain ⟨p1, p2, p3⟩ := p
                        by_cases hc : p1 = o.f2 ∧ p2 = 0
                        · rw [if_pos hc] at h9
                          obtain rfl := Option.some.inj h9
                          obtain ⟨hc1, rfl⟩ := hc
                          have HC := Aside0.mk hc1
                          have HP := Aside0.mk hp
                          clear hs hp HS h9 hc1
                          go_wp2_with fail
                          refine (bits_Reader_Rice.calls k g2 lb a o.f1 o.f2 p1 0 p3 w4 _ R1.out.p R1.out.bel HP.out).mono ?_
                          rintro e w7 ⟨rfl, hI, hB, hK⟩
                          have R2 := Aside0.mk (R1.out.step hI hB hK)
                          clear R1 hI hB hK
                          obtain ⟨z0, z1, z2⟩ := R2.out.cells
                          have hc2 := HC.out
                          subst hc2
                          go_wp2_with fail
                          go_roundg (ds.length - (j + 1) + 1)
                          case measure => have := HQ.out; have := HJ1.out; omega
                          case rel =>
                            exact ⟨j + 1, p3, by rw [e8], ⟨rfl⟩, ⟨R2.out.p⟩, ⟨R2.out.bel⟩, HL7, ⟨HJ1.out⟩⟩
                        · rw [if_neg hc] at h9; cases h9
                      · rw [if_neg d2] at hs
                        have d2b : (o.f0 == 2) = false := beq_eq_false_iff_ne.mpr d2
                        clear d2
                        by_cases d3 : o.f0 = 3
                        · rw [if_pos d3] at hs
                          have d3b : (o.f0 == 3) = true := beq_iff_eq.mpr d3
                          clear d3
                          obtain ⟨p, hp, h9⟩ := Option.bind_eq_some_iff.mp hs
                          obtain ⟨p1, p2, p3⟩ := p
                          by_cases hc : p1 = o.f2 ∧ p2 = 0
                          · rw [if_pos hc] at h9
                            obtain rfl := Option.some.inj h9
                            obtain ⟨hc1, rfl⟩ := hc
                            have HC := Aside0.mk hc1
                            have HP := Aside0.mk hp
                            clear hs hp HS h9 hc1
                            go_wp2_with fail
                            refine (bits_Reader_Grow.calls k g2 lb a  p1 0 p3 w4 _ R1.out.p R1.out.bel HP.out).mono ?_
                            rintro e w7 ⟨rfl, hI, hB, hK⟩
                            have R2 := Aside0.mk (R1.out.step hI hB hK)
                            clear R1 hI hB hK
                            obtain ⟨z0, z1, z2⟩ := R2.out.cells
                            have hc2 := HC.out
                            subst hc2
                            go_wp2_with fail
                            go_roundg (ds.length - (j + 1) + 1)
                            case measure => have := HQ.out; have := HJ1.out; omega
                            case rel =>
                              exact ⟨j + 1, p3, by rw [e8], ⟨rfl⟩, ⟨R2.out.p⟩, ⟨R2.out.bel⟩, HL7, ⟨HJ1.out⟩⟩
                          · rw [if_neg hc] at h9; cases h9
                        · rw [if_neg d3] at hs
                          have d3b : (o.f0 == 3) = false := beq_eq_false_iff_ne.mpr d3
                          clear d3
                          have HP := Aside0.mk hs
                          clear hs HS
                          go_wp2_with fail
                          refine (bits_Reader_Align.calls g2 lb a a' w4 _ R1.out.p R1.out.bel HP.out).mono ?_
                          rintro e w7 ⟨rfl, hI, hB, hK⟩
                          have R2 := Aside0.mk (R1.out.step hI hB hK)
                          clear R1 hI hB hK
                          obtain ⟨z0, z1, z2⟩ := R2.out.cells
                          go_wp2_with fail
                          go_roundg (ds.length - (j + 1) + 1)
                          case measure => have := HQ.out; have := HJ1.out; omega
                          case rel =>
                            exact ⟨j + 1, a', by rw [e8], ⟨rfl⟩, ⟨R2.out.p⟩, ⟨R2.out.bel⟩, HL7, ⟨HJ1.out⟩⟩
                · have hj1 : decide ((j : Int) < (ds.length : Int)) = false := decide_eq_false (by omega)
                  have hj2 : decide (j < ds.length) = false := decide_eq_false hj
                  have hz : ds.drop j = [] := List.drop_eq_nil_of_le (by omega)
                  have h7 := HL6.out
                  rw [hz] at h7
                  simp only [backLoop] at h7
                  obtain rfl := Option.some.inj h7
                  clear HL6 hz hj
                  go_wp2_with fail
                  refine (at_quiet2 HI6.out).mono ?_
                  rintro e w7 ⟨rfl, m7, rfl⟩
                  go_wp2_with fail
                  refine (wLen_calls ((HI4.out.below HB6.out).drewN m7)).mono ?_
                  rintro e w8 ⟨rfl, m8, rfl⟩
                  go_wp2_with fail
                  refine (dioramalaw01_awake.calls k r _ HW.out).mono ?_
                  rintro e w9 ⟨rfl, b9⟩
                  go_wp2_with fail
                  go_ret
                  exact ⟨rfl, below_step (by repeat (first | exact below_step BW4.out HB6.out | apply pw_below_drewN)) b9⟩
        · rw [if_neg ea] at h; cases h
      · rw [if_neg eb] at h; cases h
    · rw [if_neg c3] at h; cases h
end Go.Proofs.Ytlhdfdedhdcmiaa.QBits
