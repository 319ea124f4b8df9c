/- A lemma file: a call of a writer, by number; the reference's the same; both at once. No condition. -/
import Derived.Test.YtlhdfdedhdcmiaaPZ
import Derived.Test.YtlhdfdedhdcmiaaQBitsx7
import Derived.Deep.RegionWith
namespace Go.Proofs.Ytlhdfdedhdcmiaa.QBits
open Go.RowKit Go.Proofs.YtlhdfdedhdcmiaaW.PrintWords Go.Proofs.YtlhdfdedhdcmiaaW.PrintLast Go.Proofs.YtlhdfdedhdcmiaaW.PrintMore Go.Proofs.YtlhdfdedhdcmiaaV
set_option linter.unusedVariables false
set_option linter.unusedSimpArgs false
def writeF (o : S56) (B : List Bool) : Int × List Bool := if o.f0 = 0 then putF o.f2 o.f1 B else if o.f0 = 1 then unaryF o.f1 B else if o.f0 = 2 then riceF o.f2 o.f1 B else if o.f0 = 3 then growF o.f2 B else (0, alignB B)
theorem writeF_length (o : S56) (B : List Bool) (h : B.length ≤ 8388608) (hv : o.f2 ≤ 9223372036854775807) : (writeF o B).2.length ≤ 8388608 := by
  unfold writeF
  split
  · unfold putF; (repeat' split) <;> first | exact h | skip
    simp only [List.length_append, rawB_length]; omega
  · split
    · unfold unaryF; (repeat' split) <;> first | exact h | skip
      simp only [List.length_append, zerosB, List.length_replicate, List.length_singleton]; omega
    · split
      · unfold riceF; (repeat' split) <;> first | exact h | skip
        rename_i h1 h2 h3 h4 h5
        have h6 : 0 ≤ o.f2 / 2 ^ o.f1.toNat := Int.ediv_nonneg (by omega) (Int.pow_nonneg (by omega))
        simp only [List.length_append, zerosB, List.length_replicate, List.length_singleton, rawB_length]
        generalize o.f2 / 2 ^ o.f1.toNat = z at *
        omega
      · split
        · unfold growF; (repeat' split) <;> first | exact h | skip
          rename_i h1 h2 h3
          have h6 : 0 < Lib.bitLen (o.f2 + 1).toNat := bitLen_pos' (by omega)
          simp only [List.length_append, zerosB, List.length_replicate, List.length_singleton, rawB_length]
          generalize Lib.bitLen (o.f2 + 1).toNat = z at *
          omega
        · simp only [alignB_length]; omega
theorem write_calls {w : World} {base g : Nat} {F : Nat → Prop} {B : List Bool} (h : IsW w base F g B) (hb : base ≤ w.heap.size) (hl : B.length ≤ 8388608) (o : S56) (hv : o.f2 ≤ 9223372036854775807) :
    Calls Try.prog 52 #[.pointer (some ⟨g, 0, none⟩), .agg #[.int .i64 o.f0, .int .i64 o.f1, .int .i64 o.f2]] w fun e w' => e = .returned (.int .i64 (writeF o B).1) ∧ ∃ F', IsW w' base F' g (writeF o B).2 ∧ Moved w w' F F' := by
  have H := Aside0.mk (h.below (below_alloc (Below.refl _ _) (.cells #[.int .i64 o.f0, .int .i64 o.f1, .int .i64 o.f2] 56)))
  have HM := Aside0.mk (Moved.of_below (F := F) (below_alloc (Below.refl _ w) (.cells #[.int .i64 o.f0, .int .i64 o.f1, .int .i64 o.f2] 56)))
  have HB := Aside0.mk hb
  have HL := Aside0.mk hl
  have HV := Aside0.mk hv
  have HB2 := Aside0.mk (Nat.le_trans hb (below_alloc (Below.refl _ w) (.cells #[.int .i64 o.f0, .int .i64 o.f1, .int .i64 o.f2] 56)).size)
  clear h hb hl hv
  unfold writeF
  by_cases d0 : o.f0 = 0
  · rw [if_pos d0]
    have b0 : (o.f0 == 0) = true := beq_iff_eq.mpr d0
    clear d0
    go_enter Try.func52, Try.ntmps52
    go_wp2_with fail
    refine (put_calls H.out HB2.out HL.out o.f2 o.f1 HV.out).mono ?_
    rintro e w2 ⟨rfl, F2, I2, M2⟩
    have HI2 := Aside0.mk I2
    have HM2 := Aside0.mk (HM.out.trans M2)
    clear I2 M2
    go_wp2_with fail
    go_ret
    exact ⟨rfl, F2, HI2.out, HM2.out⟩
  rw [if_neg d0]
  have b0 : (o.f0 == 0) = false := beq_eq_false_iff_ne.mpr d0
  clear d0
  by_cases d1 : o.f0 = 1
  · rw [if_pos d1]
    have b1 : (o.f0 == 1) = true := beq_iff_eq.mpr d1
    clear d1
    go_enter Try.func52, Try.ntmps52
    go_wp2_with fail
    refine (unary_calls H.out HB2.out HL.out o.f1).mono ?_
    rintro e w2 ⟨rfl, F2, I2, M2⟩
    have HI2 := Aside0.mk I2
    have HM2 := Aside0.mk (HM.out.trans M2)
    clear I2 M2
    go_wp2_with fail
    go_ret
    exact ⟨rfl, F2, HI2.out, HM2.out⟩
  rw [if_neg d1]
  have b1 : (o.f0 == 1) = false := beq_eq_false_iff_ne.mpr d1
  clear d1
  by_cases d2 : o.f0 = 2
  · rw [if_pos d2]
    have b2 : (o.f0 == 2) = true := beq_iff_eq.mpr d2
    clear d2
    go_enter Try.func52, Try.ntmps52
    go_wp2_with fail
    refine (rice_calls H.out HB2.out HL.out o.f2 o.f1 HV.out).mono ?_
    rintro e w2 ⟨rfl, F2, I2, M2⟩
    have HI2 := Aside0.mk I2
    have HM2 := Aside0.mk (HM.out.trans M2)
    clear I2 M2
    go_wp2_with fail
    go_ret
    exact ⟨rfl, F2, HI2.out, HM2.out⟩
  rw [if_neg d2]
  have b2 : (o.f0 == 2) = false := beq_eq_false_iff_ne.mpr d2
  clear d2
  by_cases d3 : o.f0 = 3
  · rw [if_pos d3]
    have b3 : (o.f0 == 3) = true := beq_iff_eq.mpr d3
    clear d3
    go_enter Try.func52, Try.ntmps52
    go_wp2_with fail
    refine (grow_calls H.out HB2.out HL.out o.f2).mono ?_
    rintro e w2 ⟨rfl, F2, I2, M2⟩
    have HI2 := Aside0.mk I2
    have HM2 := Aside0.mk (HM.out.trans M2)
    clear I2 M2
    go_wp2_with fail
    go_ret
    exact ⟨rfl, F2, HI2.out, HM2.out⟩
  rw [if_neg d3]
  have b3 : (o.f0 == 3) = false := beq_eq_false_iff_ne.mpr d3
  clear d3
  go_enter Try.func52, Try.ntmps52
  go_wp2_with fail
  refine (align_calls H.out HB2.out HL.out).mono ?_
  rintro e w2 ⟨rfl, F2, I2, M2⟩
  have HI2 := Aside0.mk I2
  have HM2 := Aside0.mk (HM.out.trans M2)
  clear I2 M2
  go_wp2_with fail
  go_ret
  exact ⟨rfl, F2, HI2.out, HM2.out⟩
theorem written_calls {w : World} {base g : Nat} {F : Nat → Prop} {B : List Bool} (h : IsX w base F g B) (hb : base ≤ w.heap.size) (hl : B.length ≤ 8388608) (o : S56) (hv : o.f2 ≤ 9223372036854775807) :
    Calls Try.prog 53 #[.pointer (some ⟨g, 0, none⟩), .agg #[.int .i64 o.f0, .int .i64 o.f1, .int .i64 o.f2]] w fun e w' => e = .returned (.int .i64 (writeF o B).1) ∧ ∃ F', IsX w' base F' g (writeF o B).2 ∧ Moved w w' F F' := by
  have H := Aside0.mk (h.below (below_alloc (Below.refl _ _) (.cells #[.int .i64 o.f0, .int .i64 o.f1, .int .i64 o.f2] 56)))
  have HM := Aside0.mk (Moved.of_below (F := F) (below_alloc (Below.refl _ w) (.cells #[.int .i64 o.f0, .int .i64 o.f1, .int .i64 o.f2] 56)))
  have HB := Aside0.mk hb
  have HL := Aside0.mk hl
  have HV := Aside0.mk hv
  have HB2 := Aside0.mk (Nat.le_trans hb (below_alloc (Below.refl _ w) (.cells #[.int .i64 o.f0, .int .i64 o.f1, .int .i64 o.f2] 56)).size)
  clear h hb hl hv
  unfold writeF
  by_cases d0 : o.f0 = 0
  · rw [if_pos d0]
    have b0 : (o.f0 == 0) = true := beq_iff_eq.mpr d0
    clear d0
    go_enter Try.func53, Try.ntmps53
    go_wp2_with fail
    refine (xput_calls H.out HB2.out HL.out o.f2 o.f1 HV.out).mono ?_
    rintro e w2 ⟨rfl, F2, I2, M2⟩
    have HI2 := Aside0.mk I2
    have HM2 := Aside0.mk (HM.out.trans M2)
    clear I2 M2
    go_wp2_with fail
    go_ret
    exact ⟨rfl, F2, HI2.out, HM2.out⟩
  rw [if_neg d0]
  have b0 : (o.f0 == 0) = false := beq_eq_false_iff_ne.mpr d0
  clear d0
  by_cases d1 : o.f0 = 1
  · rw [if_pos d1]
    have b1 : (o.f0 == 1) = true := beq_iff_eq.mpr d1
    clear d1
    go_enter Try.func53, Try.ntmps53
    go_wp2_with fail
    refine (xunary_calls H.out HB2.out HL.out o.f1).mono ?_
    rintro e w2 ⟨rfl, F2, I2, M2⟩
    have HI2 := Aside0.mk I2
    have HM2 := Aside0.mk (HM.out.trans M2)
    clear I2 M2
    go_wp2_with fail
    go_ret
    exact ⟨rfl, F2, HI2.out, HM2.out⟩
  rw [if_neg d1]
  have b1 : (o.f0 == 1) = false := beq_eq_false_iff_ne.mpr d1
  clear d1
  by_cases d2 : o.f0 = 2
  · rw [if_pos d2]
    have b2 : (o.f0 == 2) = true := beq_iff_eq.mpr d2
    clear d2
    go_enter Try.func53, Try.ntmps53
    go_wp2_with fail
    refine (xrice_calls H.out HB2.out HL.out o.f2 o.f1 HV.out).mono ?_
    rintro e w2 ⟨rfl, F2, I2, M2⟩
    have HI2 := Aside0.mk I2
    have HM2 := Aside0.mk (HM.out.trans M2)
    clear I2 M2
    go_wp2_with fail
    go_ret
    exact ⟨rfl, F2, HI2.out, HM2.out⟩
  rw [if_neg d2]
  have b2 : (o.f0 == 2) = false := beq_eq_false_iff_ne.mpr d2
  clear d2
  by_cases d3 : o.f0 = 3
  · rw [if_pos d3]
    have b3 : (o.f0 == 3) = true := beq_iff_eq.mpr d3
    clear d3
    go_enter Try.func53, Try.ntmps53
    go_wp2_with fail
    refine (xgrow_calls H.out HB2.out HL.out o.f2).mono ?_
    rintro e w2 ⟨rfl, F2, I2, M2⟩
    have HI2 := Aside0.mk I2
    have HM2 := Aside0.mk (HM.out.trans M2)
    clear I2 M2
    go_wp2_with fail
    go_ret
    exact ⟨rfl, F2, HI2.out, HM2.out⟩
  rw [if_neg d3]
  have b3 : (o.f0 == 3) = false := beq_eq_false_iff_ne.mpr d3
  clear d3
  go_enter Try.func53, Try.ntmps53
  go_wp2_with fail
  refine (xalign_calls H.out HB2.out HL.out).mono ?_
  rintro e w2 ⟨rfl, F2, I2, M2⟩
  have HI2 := Aside0.mk I2
  have HM2 := Aside0.mk (HM.out.trans M2)
  clear I2 M2
  go_wp2_with fail
  go_ret
  exact ⟨rfl, F2, HI2.out, HM2.out⟩
/-- Both writers, and the call's number in a block of its own. -/
structure WX (w0 : World) (base g gx b : Nat) (o : S56) (W : World) (F G : Nat → Prop) (B C : List Bool) : Prop where
  w : IsW W base F g B
  x : IsX W base G gx C
  box : W.heap[b]? = some (.cells #[.int .i64 o.f0, .int .i64 o.f1, .int .i64 o.f2] 56 (0, 0))
  bel : Below base w0 W
  le : base ≤ W.heap.size
  n1 : ∀ k, F k → ¬ G k
  n2 : ¬ F b
  n3 : ¬ G b
theorem WX.stepW {w0 : World} {base g gx b : Nat} {o : S56} {W W' : World} {F G F' : Nat → Prop} {B C B' : List Bool} (h : WX w0 base g gx b o W F G B C) (hI : IsW W' base F' g B') (hM : Moved W W' F F') : WX w0 base g gx b o W' F' G B' C :=
  ⟨hI, h.x.same hM.size (fun k hk hG => hM.block k hk (fun hF => h.n1 k hF hG)), (hM.block b (blk_lt h.box) h.n2).trans h.box, h.bel.trans (hM.below (fun k hk => (h.w.ge k hk).1) h.le), Nat.le_trans h.le hM.size,
   fun k hk hG => (hM.sub k hk).elim (fun hF => h.n1 k hF hG) (fun hs => absurd (h.x.ge k hG).2 (by omega)), fun hk => (hM.sub b hk).elim h.n2 (fun hs => absurd (blk_lt h.box) (by omega)), h.n3⟩
theorem WX.stepX {w0 : World} {base g gx b : Nat} {o : S56} {W W' : World} {F G G' : Nat → Prop} {B C C' : List Bool} (h : WX w0 base g gx b o W F G B C) (hI : IsX W' base G' gx C') (hM : Moved W W' G G') : WX w0 base g gx b o W' F G' B C' :=
  ⟨h.w.same hM.size (fun k hk hF => hM.block k hk (fun hG => h.n1 k hF hG)), hI, (hM.block b (blk_lt h.box) h.n3).trans h.box, h.bel.trans (hM.below (fun k hk => (h.x.ge k hk).1) h.le), Nat.le_trans h.le hM.size,
   fun k hF hk => (hM.sub k hk).elim (fun hG => h.n1 k hF hG) (fun hs => absurd (h.w.ge k hF).2 (by omega)), h.n2, fun hk => (hM.sub b hk).elim h.n3 (fun hs => absurd (blk_lt h.box) (by omega))⟩
theorem WX.below {w0 : World} {base g gx b : Nat} {o : S56} {W W' : World} {F G : Nat → Prop} {B C : List Bool} (h : WX w0 base g gx b o W F G B C) (hb : Below W.heap.size W W') : WX w0 base g gx b o W' F G B C :=
  ⟨h.w.below hb, h.x.below hb, (hb.block b (blk_lt h.box)).trans h.box, h.bel.trans ⟨hb.os, hb.tape, hb.output, hb.size, fun k hk => hb.block k (Nat.lt_of_lt_of_le hk h.le)⟩, Nat.le_trans h.le hb.size, h.n1, h.n2, h.n3⟩
theorem WX.cells {w0 : World} {base g gx b : Nat} {o : S56} {W : World} {F G : Nat → Prop} {B C : List Bool} (h : WX w0 base g gx b o W F G B C) : W.cell? ⟨b, 0, none⟩ = some (.int .i64 o.f0) ∧ W.cell? ⟨b, 1, none⟩ = some (.int .i64 o.f1) ∧ W.cell? ⟨b, 2, none⟩ = some (.int .i64 o.f2) :=
  ⟨(blk_cell h.box 0).trans rfl, (blk_cell h.box 1).trans rfl, (blk_cell h.box 2).trans rfl⟩
theorem WX.bits {w0 : World} {base g gx b : Nat} {o : S56} {W : World} {F G : Nat → Prop} {B C : List Bool} (h : WX w0 base g gx b o W F G B C) : ∃ A c, W.cell? ⟨gx, 0, none⟩ = some (.slice A C.length c) := by
  obtain ⟨v, hx, _⟩ := h.x
  obtain ⟨A, c, rfl⟩ := own_slice hx.row
  exact ⟨A, c, (blk_cell hx.hg 0).trans rfl⟩
end Go.Proofs.Ytlhdfdedhdcmiaa.QBits
