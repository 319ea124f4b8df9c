/- A text of the pure side: equal entries are the same, by the law's own functions; the document's Lookup. No condition. A lemma file: dioramaref09.Lookup, walked. No condition. A lemma file: dioramalaw09.TableExpands, walked. No condition. -/
import Derived.Test.YtmbhafgnmdfjhaaMP
import Derived.Test.YtmbhafgnmdfjhaaQTabx20
import Derived.Test.YtmbhafgnmdfjhaaQTabx21
import Derived.Test.YtmbhafgnmdfjhaaME
import Derived.Test.YtmbhafgnmdfjhaaMX
import Derived.Test.YtmbhafgnmdfjhaaML
namespace Go.Proofs.Ytmbhafgnmdfjhaa.PureT
open Go.RowKit Go.Proofs.Ytmbhafgnmdfjhaa.QTab Go.Proofs.YtmbhafgnmdfjhaaW.PrintWords Go.Proofs.YtmbhafgnmdfjhaaW.PrintMore Go.Proofs.YtmbhafgnmdfjhaaV
theorem same_ev (x0 x1 x2 x3 x4 x5 : Int) (x6 : Bool) {l : List Int} (hl : l.length ≤ 9223372036854775807) : Ev (fun k => dioramalaw09_same.f k x0 x1 x2 x3 x4 x5 x6 l x0 x1 x2 x3 x4 x5 x6 l) true := by
  have h := Go.Proofs.Ytmbhafgnmdfjhaa.PureTI.eqi_ev (l := l) (u := l) hl
  rw [decide_eq_true rfl] at h
  unfold dioramalaw09_same.f
  simp only [if_true, beq_self_eq_true]
  exact Ev.bind h (Ev.now _)
theorem all_ev {t : S27} (G : GoodT t) : Ev (fun k => dioramalaw09_all.f k (entsT t) (entsR t)) true := by
  have e1 : (entsT t).length = tmN t := by simp [entsT]
  have e2 : (entsR t).length = tmN t := by simp [entsR]
  unfold dioramalaw09_all.f
  rw [e1, e2]
  simp only [if_true]
  have hn := G.n
  refine Ev.all (f := fun k i => dioramalaw09_all.l0 k (entsT t) (entsR t) (i : Int)) (tmN t) (fun i hi ih => ?_) ?_
  · have hs := same_ev (entT t i).f0 (entT t i).f1 (entT t i).f2 (entT t i).f3 (entT t i).f4 (entT t i).f5 (entT t i).f6 (l := (entT t i).f7) (Nat.le_trans (dep_small G hi : (depF t i).length ≤ 4) (by omega))
    refine Ev.step (f := fun k => (dioramalaw09_same.f k (entT t i).f0 (entT t i).f1 (entT t i).f2 (entT t i).f3 (entT t i).f4 (entT t i).f5 (entT t i).f6 (entT t i).f7 (entT t i).f0 (entT t i).f1 (entT t i).f2 (entT t i).f3 (entT t i).f4 (entT t i).f5 (entT t i).f6 (entT t i).f7).bind fun b => if b = true then dioramalaw09_all.l0 k (entsT t) (entsR t) ((i + 1 : Nat) : Int) else some false) (fun k => ?_) (Ev.bind hs (Ev.congr (fun k => if_pos rfl) ih))
    simp only [dioramalaw09_all.l0]
    rw [e1, e2, if_pos (by omega), if_pos (by omega), if_pos (by omega), rdT_ents hi, rdR_ents hi, w_next (by omega)]
    rfl
  · refine Ev.step (f := fun _ => some true) (fun k => ?_) (Ev.now _)
    simp only [dioramalaw09_all.l0]
    rw [e1, if_neg (by omega)]
theorem all_nil : Ev (fun k => dioramalaw09_all.f k [] []) true := by
  refine Ev.congr (fun k => if_pos rfl) ?_
  refine Ev.step (f := fun _ => some true) (fun k => ?_) (Ev.now _)
  simp only [dioramalaw09_all.l0]
  rfl
end Go.Proofs.Ytmbhafgnmdfjhaa.PureT
namespace Go.Proofs.Ytmbhafgnmdfjhaa.QTab
open Go.Proofs.Ytmbhafgnmdfjhaa.PureT Go.RowKit Go.Proofs.YtmbhafgnmdfjhaaW.PrintWords Go.Proofs.YtmbhafgnmdfjhaaW.PrintLast Go.Proofs.YtmbhafgnmdfjhaaW.PrintMore Go.Proofs.YtmbhafgnmdfjhaaV
set_option linter.unusedVariables false
set_option linter.unusedSimpArgs false
def cellsT (x : S48) (v : Value) : Value := .agg #[.int .i64 x.f0, .int .i64 x.f1, .int .i64 x.f2, .int .i64 x.f3, .int .i64 x.f4, .int .i64 x.f5, .bool x.f6, v]
theorem put8 {w : World} {g : Nat} {t : TypeId} {c0 c1 c2 c3 c4 c5 c6 c7 : Value} (h : w.heap[g]? = some (.cells #[c0, c1, c2, c3, c4, c5, c6, c7] t (0, 0))) (v0 v1 v2 v3 v4 v5 v6 v7 : Value) :
    ((((((((w.setCell ⟨g, 0, none⟩ v0).setCell ⟨g, 1, none⟩ v1).setCell ⟨g, 2, none⟩ v2).setCell ⟨g, 3, none⟩ v3).setCell ⟨g, 4, none⟩ v4).setCell ⟨g, 5, none⟩ v5).setCell ⟨g, 6, none⟩ v6).setCell ⟨g, 7, none⟩ v7).heap[g]? = some (.cells #[v0, v1, v2, v3, v4, v5, v6, v7] t (0, 0)) := by
  have h0 := blk_put (cs' := #[v0, c1, c2, c3, c4, c5, c6, c7]) h 0 v0 rfl
  generalize w.setCell ⟨g, 0, none⟩ v0 = w0 at h0 ⊢
  have h1 := blk_put (cs' := #[v0, v1, c2, c3, c4, c5, c6, c7]) h0 1 v1 rfl
  generalize w0.setCell ⟨g, 1, none⟩ v1 = w1 at h1 ⊢
  have h2 := blk_put (cs' := #[v0, v1, v2, c3, c4, c5, c6, c7]) h1 2 v2 rfl
  generalize w1.setCell ⟨g, 2, none⟩ v2 = w2 at h2 ⊢
  have h3 := blk_put (cs' := #[v0, v1, v2, v3, c4, c5, c6, c7]) h2 3 v3 rfl
  generalize w2.setCell ⟨g, 3, none⟩ v3 = w3 at h3 ⊢
  have h4 := blk_put (cs' := #[v0, v1, v2, v3, v4, c5, c6, c7]) h3 4 v4 rfl
  generalize w3.setCell ⟨g, 4, none⟩ v4 = w4 at h4 ⊢
  have h5 := blk_put (cs' := #[v0, v1, v2, v3, v4, v5, c6, c7]) h4 5 v5 rfl
  generalize w4.setCell ⟨g, 5, none⟩ v5 = w5 at h5 ⊢
  have h6 := blk_put (cs' := #[v0, v1, v2, v3, v4, v5, v6, c7]) h5 6 v6 rfl
  generalize w5.setCell ⟨g, 6, none⟩ v6 = w6 at h6 ⊢
  exact blk_put (cs' := #[v0, v1, v2, v3, v4, v5, v6, v7]) h6 7 v7 rfl
theorem bel8 {w0 w : World} {g : Nat} (h : Below w0.heap.size w0 w) (hg : w0.heap.size ≤ g) (v0 v1 v2 v3 v4 v5 v6 v7 : Value) :
    Below w0.heap.size w0 ((((((((w.setCell ⟨g, 0, none⟩ v0).setCell ⟨g, 1, none⟩ v1).setCell ⟨g, 2, none⟩ v2).setCell ⟨g, 3, none⟩ v3).setCell ⟨g, 4, none⟩ v4).setCell ⟨g, 5, none⟩ v5).setCell ⟨g, 6, none⟩ v6).setCell ⟨g, 7, none⟩ v7) :=
  below_set (below_set (below_set (below_set (below_set (below_set (below_set (below_set h hg) hg) hg) hg) hg) hg) hg) hg
theorem far8 {w : World} {g base : Nat} {ok : Nat → Prop} {v : Value} {xs : List Int} (h : (Kd.int .i64).R 3 w base ok v xs) (hg : g < base) (v0 v1 v2 v3 v4 v5 v6 v7 : Value) :
    (Kd.int .i64).R 3 ((((((((w.setCell ⟨g, 0, none⟩ v0).setCell ⟨g, 1, none⟩ v1).setCell ⟨g, 2, none⟩ v2).setCell ⟨g, 3, none⟩ v3).setCell ⟨g, 4, none⟩ v4).setCell ⟨g, 5, none⟩ v5).setCell ⟨g, 6, none⟩ v6).setCell ⟨g, 7, none⟩ v7) base (fun k => base ≤ k) v xs := by
  have hb := Kd.R_mono (ok' := fun k => base ≤ k) (Kd.R_bound h) (fun k hk => hk.2.1)
  have ne : ∀ (j : Nat) (k : Nat), base ≤ k → k ≠ (⟨g, j, none⟩ : Addr).block := fun j k hk => by show k ≠ g; omega
  exact Kd.R_far (Kd.R_far (Kd.R_far (Kd.R_far (Kd.R_far (Kd.R_far (Kd.R_far (Kd.R_far hb (ne 0) _) (ne 1) _) (ne 2) _) (ne 3) _) (ne 4) _) (ne 5) _) (ne 6) _) (ne 7) _
set_option maxRecDepth 100000 in
set_option maxHeartbeats 4000000 in
theorem rlook_calls {w : World} (t : S27) (d : D27) (hr : R27 w t d) (h : smallB t = true) (i : Int) : Calls Try.prog 29 #[.agg (cells27 t d), .int .i64 i] w fun e w' => ∃ A c, e = .returned (.tuple #[cellsT (lkF t i).1 (.slice A (lkF t i).1.f7.length c), .int .i64 (lkF t i).2]) ∧ (lkF t i).1.f7.length ≤ c ∧ Kd.C (Kd.int .i64) w' A (lkF t i).1.f7.length (lkF t i).1.f7 ∧ Below w.heap.size w w' := by
  have HR := Aside0.mk hr
  have HS := Aside0.mk h
  clear hr h
  have hu := Try.underlying27
  have hu51 := Try.underlying51
  unfold cells27
  go_enter Try.func29, Try.ntmps29
  obtain ⟨w1, hw1⟩ : ∃ wz, w.alloc (.cells (cells27 t d) 27) = wz := ⟨_, rfl⟩
  obtain ⟨g, hg⟩ : ∃ rz, w.heap.size = rz := ⟨_, rfl⟩
  obtain ⟨w2, hw2⟩ : ∃ wz, w1.alloc (.cells #[.int .i64 0, .int .i64 0, .int .i64 0, .int .i64 0, .int .i64 0, .int .i64 0, .bool false, .slice none 0 0] 51) = wz := ⟨_, rfl⟩
  obtain ⟨g4, hg4⟩ : ∃ rz, w1.heap.size = rz := ⟨_, rfl⟩
  have hb1 : Below w.heap.size w w1 := by rw [← hw1]; exact below_alloc (Below.refl _ _) _
  have hb2 : Below w1.heap.size w1 w2 := by rw [← hw2]; exact below_alloc (Below.refl _ _) _
  have hk1 : Box27 w1 g t d := by rw [← hw1, ← hg]; exact blk_new w _
  have S2 : Aside0 (St4 w w2 g t d) := ⟨⟨below_step hb1 hb2, hk1.below hb2, (HR.out.below hb1).below hb2⟩⟩
  have K4 : Aside0 (w2.heap[g4]? = some (.cells #[.int .i64 0, .int .i64 0, .int .i64 0, .int .i64 0, .int .i64 0, .int .i64 0, .bool false, .slice none 0 0] 51 (0, 0))) := ⟨by rw [← hw2, ← hg4]; exact blk_new w1 _⟩
  have GE : Aside0 (w.heap.size ≤ g4) := ⟨by have := hb1.size; omega⟩
  clear hb1 hb2 hk1
  unfold cells27 at hw1
  obtain ⟨q0, q1, q2, q3, q4, q5, q6, q7, q8, q9, q10⟩ := S2.out.k.cells
  go_wp2_with fail
  clear hw1 hg hw2 hg4
  obtain ⟨E, hE⟩ : ∃ z, chkV t = z := ⟨_, rfl⟩
  obtain ⟨l6, h6⟩ : ∃ z, (if chkV t = 0 then entsR t else []) = z := ⟨_, rfl⟩
  have HC2 := rexp_calls t d S2.out.r HS.out
  unfold cells27 at HC2
  rw [h6, hE] at HC2
  have HE := Aside0.mk hE
  have H6 := Aside0.mk h6
  clear hE h6
  refine HC2.mono ?_
  rintro e w3 ⟨v6, rfl, hv, hb⟩
  have B3 := Aside0.mk (below_step S2.out.b hb)
  have K4b := Aside0.mk (blk_below K4.out hb)
  obtain ⟨A6, c6, rfl⟩ := Kd.S_slice hv
  have Q6 := Aside0.mk (Kd.S_reads' hv)
  have HSV := Aside0.mk hv
  have G4 := Aside0.mk (blk_lt K4.out)
  clear hb hv HC2 S2 K4 q0 q1 q2 q3 q4 q5 q6 q7 q8 q9 q10
  obtain ⟨a0, a1, a2, a3, a4, a5, a6, a7, f0, f1, f2, f3, f4, f5, f6, f7⟩ := bcells8 K4b.out
  by_cases hz : E = 0
  · have hz1 : (E != 0) = false := bne_eq_false_iff_eq.mpr hz
    have h0 : chkV t = 0 := by rw [HE.out]; exact hz
    have hl : l6 = entsR t := by rw [← H6.out, if_pos h0]
    have HLN := Aside0.mk (show l6.length = tmN t by rw [hl]; simp [entsR])
    have HZ := Aside0.mk h0
    have HL := Aside0.mk hl
    clear h0 hz hl
    by_cases hi0 : i < 0
    · have hi1 : decide (i < 0) = true := decide_eq_true hi0
      have HX : Aside0 (lkF t i = (z48, 1)) := ⟨by rw [lkF, if_pos HZ.out, if_pos (.inl hi0)]⟩
      clear hi0
      go_wp2_with fail
      (try simp only [Exit.inBlock, Exit.then])
      refine bodyPost_ret (results_ct rfl _ _ g4 51 #[.int .i64 0, .int .i64 0, .int .i64 0, .int .i64 0, .int .i64 0, .int .i64 0, .bool false, .slice none 0 0] (0, 0) _ rfl (put8 K4b.out _ _ _ _ _ _ _ _) Try.underlying51 rfl (by kernel_rfl)) rfl ?_
      rw [HX.out]
      exact ⟨none, 0, rfl, Nat.le_refl _, Kd.C_nil _ _, bel8 B3.out GE.out _ _ _ _ _ _ _ _⟩
    · have hi1 : decide (i < 0) = false := decide_eq_false hi0
      by_cases hi2 : (tmN t : Int) ≤ i
      · have hi3 : decide ((l6.length : Int) ≤ i) = true := decide_eq_true (by rw [HLN.out]; exact hi2)
        have HX : Aside0 (lkF t i = (z48, 1)) := ⟨by rw [lkF, if_pos HZ.out, if_pos (.inr hi2)]⟩
        clear hi0 hi2
        go_wp2_with fail
        (try simp only [Exit.inBlock, Exit.then])
        refine bodyPost_ret (results_ct rfl _ _ g4 51 #[.int .i64 0, .int .i64 0, .int .i64 0, .int .i64 0, .int .i64 0, .int .i64 0, .bool false, .slice none 0 0] (0, 0) _ rfl (put8 K4b.out _ _ _ _ _ _ _ _) Try.underlying51 rfl (by kernel_rfl)) rfl ?_
        rw [HX.out]
        exact ⟨none, 0, rfl, Nat.le_refl _, Kd.C_nil _ _, bel8 B3.out GE.out _ _ _ _ _ _ _ _⟩
      · obtain ⟨m, rfl⟩ : ∃ m : Nat, i = (m : Int) := ⟨i.toNat, by omega⟩
        have hi3 : decide ((l6.length : Int) ≤ (m : Int)) = false := decide_eq_false (by rw [HLN.out]; exact hi2)
        have hm : m < tmN t := by omega
        have HX : Aside0 (lkF t (m : Int) = (entT t m, 0)) := ⟨by rw [lkF, if_pos HZ.out, if_neg (by omega), Int.toNat_natCast]⟩
        have hm2 : (m < l6.length) = True := eq_true (by rw [HLN.out]; exact hm)
        have hm4 : (l6.length ≤ m) = False := eq_false (by rw [HLN.out]; omega)
        obtain ⟨g6, cap6, eg, -, -, -⟩ := Kd.S_form HSV.out (by rw [HLN.out]; omega)
        injection eg with eg1 eg2 eg3
        subst eg1 eg3
        clear eg2
        obtain ⟨oki, cs, -, hM, hcc, -, -, -⟩ := Kd.S_elem HSV.out z51 (m : Int) (by omega) (by rw [HLN.out]; omega)
        obtain ⟨v7, rfl, hR⟩ := k51_openM hM
        have ee : l6.getD (m : Int).toNat z51 = entR t m := by rw [HL.out]; exact rdR_ents hm
        rw [ee] at hR hcc
        rw [Int.toNat_natCast] at hcc
        obtain ⟨A7, c7, rfl⟩ := Kd.R_slice hR
        have x0 : w3.cell? ⟨g6, m * 8, none⟩ = some (.int .i64 (entR t m).f0) := hcc 0 _ rfl
        have x1 : w3.cell? ⟨g6, m * 8 + 1, none⟩ = some (.int .i64 (entR t m).f1) := hcc 1 _ rfl
        have x2 : w3.cell? ⟨g6, m * 8 + 2, none⟩ = some (.int .i64 (entR t m).f2) := hcc 2 _ rfl
        have x3 : w3.cell? ⟨g6, m * 8 + 3, none⟩ = some (.int .i64 (entR t m).f3) := hcc 3 _ rfl
        have x4 : w3.cell? ⟨g6, m * 8 + 4, none⟩ = some (.int .i64 (entR t m).f4) := hcc 4 _ rfl
        have x5 : w3.cell? ⟨g6, m * 8 + 5, none⟩ = some (.int .i64 (entR t m).f5) := hcc 5 _ rfl
        have x6 : w3.cell? ⟨g6, m * 8 + 6, none⟩ = some (.bool (entR t m).f6) := hcc 6 _ rfl
        have x7 : w3.cell? ⟨g6, m * 8 + 7, none⟩ = some (.slice A7 (entR t m).f7.length c7) := hcc 7 _ rfl
        have HRR := Aside0.mk hR
        have HL7 := Aside0.mk (Kd.R_reads' hR).2.1
        clear hi0 hi2 hm hM hcc hR ee
        go_wp2_with fail
        (try simp only [Exit.inBlock, Exit.then])
        refine bodyPost_ret (results_ct rfl _ _ g4 51 #[.int .i64 (entR t m).f0, .int .i64 (entR t m).f1, .int .i64 (entR t m).f2, .int .i64 (entR t m).f3, .int .i64 (entR t m).f4, .int .i64 (entR t m).f5, .bool (entR t m).f6, .slice A7 (entR t m).f7.length c7] (0, 0) _ rfl (put8 K4b.out _ _ _ _ _ _ _ _) Try.underlying51 rfl (by kernel_rfl)) rfl ?_
        rw [HX.out]
        exact ⟨A7, c7, rfl, HL7.out, (Kd.R_reads' (far8 HRR.out G4.out _ _ _ _ _ _ _ _)).2.2, bel8 B3.out GE.out _ _ _ _ _ _ _ _⟩
  · have hz1 : (E != 0) = true := bne_iff_ne.mpr hz
    have HX : Aside0 (lkF t i = (z48, E)) := ⟨by rw [lkF, HE.out, if_neg hz]⟩
    clear hz
    go_wp2_with fail
    (try simp only [Exit.inBlock, Exit.then])
    refine bodyPost_ret (results_ct rfl _ _ g4 51 #[.int .i64 0, .int .i64 0, .int .i64 0, .int .i64 0, .int .i64 0, .int .i64 0, .bool false, .slice none 0 0] (0, 0) _ rfl (put8 K4b.out _ _ _ _ _ _ _ _) Try.underlying51 rfl (by kernel_rfl)) rfl ?_
    rw [HX.out]
    exact ⟨none, 0, rfl, Nat.le_refl _, Kd.C_nil _ _, bel8 B3.out GE.out _ _ _ _ _ _ _ _⟩
end Go.Proofs.Ytmbhafgnmdfjhaa.QTab
namespace Go.Proofs.Ytmbhafgnmdfjhaa.QTab
open Go.Proofs.Ytmbhafgnmdfjhaa.PureT Go.RowKit Go.Proofs.YtmbhafgnmdfjhaaW.PrintWords Go.Proofs.YtmbhafgnmdfjhaaW.PrintLast Go.Proofs.YtmbhafgnmdfjhaaW.PrintMore Go.Proofs.YtmbhafgnmdfjhaaV
set_option linter.unusedVariables false
set_option linter.unusedSimpArgs false
theorem look_calls {w : World} (t : S27) (d : D27) (hr : R27 w t d) (h : smallB t = true) (i : Int) : Calls Try.prog 28 #[.agg (cells27 t d), .int .i64 i] w fun e w' => ∃ v, e = .returned (.tuple #[cellsT (lkF t i).1 v, .int .i64 (lkF t i).2]) ∧ Kd.R (Kd.int .i64) 3 w' w.heap.size (fun _ => True) v (lkF t i).1.f7 ∧ Below w.heap.size w w' := by
  obtain ⟨K, hK⟩ := look_ev h i
  exact table_Lookup.calls K t.f0 d.A1 d.c1 t.f1 d.A2 d.c2 t.f2 d.A3 d.c3 t.f3 t.f4 t.f5 d.A6 d.c6 t.f6 d.A7 d.c7 t.f7 d.A8 d.c8 t.f8 d.A9 d.c9 t.f9 d.A10 d.c10 t.f10 i _ _ _ _ _ _ _ _ _ w hr.r1 hr.c1 hr.r2 hr.c2 hr.r3 hr.c3 hr.r6 hr.c6 hr.r7 hr.c7 hr.r8 hr.c8 hr.r9 hr.c9 hr.r10 hr.c10 (hK K (Nat.le_refl _))
theorem lk_small {t : S27} (i : Int) : (lkF t i).1.f7.length ≤ 9223372036854775807 := by
  unfold lkF
  by_cases h0 : chkV t = 0
  · rw [if_pos h0]
    by_cases h1 : i < 0 ∨ (tmN t : Int) ≤ i
    · rw [if_pos h1]; exact Nat.zero_le _
    · rw [if_neg h1]
      exact Nat.le_trans (dep_small (good_of h0) (by omega) : (depF t i.toNat).length ≤ 4) (by omega)
  · rw [if_neg h0]; exact Nat.zero_le _
set_option maxRecDepth 100000 in
set_option maxHeartbeats 4000000 in
theorem exps_calls {w : World} (t : S27) (d : D27) (hr : R27 w t d) (i : Int) :
    Calls Try.prog 5 #[.agg (cells27 t d), .int .i64 i] w fun e w' => e = .returned (.bool true) ∧ Below w.heap.size w w' := by
  have HR := Aside0.mk hr
  clear hr
  obtain ⟨E, hE⟩ : ∃ z, chkV t = z := ⟨_, rfl⟩
  obtain ⟨l5, h5⟩ : ∃ z, (if chkV t = 0 then entsT t else []) = z := ⟨_, rfl⟩
  obtain ⟨l7, h7⟩ : ∃ z, (if chkV t = 0 then entsR t else []) = z := ⟨_, rfl⟩
  have HALL : Aside0 (∃ K, dioramalaw09_all.f K l5 l7 = some true) := ⟨by
    rw [← h5, ← h7]
    by_cases h0 : chkV t = 0
    · rw [if_pos h0, if_pos h0]
      obtain ⟨K, hK⟩ := all_ev (good_of h0)
      exact ⟨K, hK K (Nat.le_refl _)⟩
    · rw [if_neg h0, if_neg h0]
      obtain ⟨K, hK⟩ := all_nil
      exact ⟨K, hK K (Nat.le_refl _)⟩⟩
  have H5 := Aside0.mk h5
  have H7 := Aside0.mk h7
  have HE := Aside0.mk hE
  clear hE h5 h7
  have hu := Try.underlying27
  have hu48 := Try.underlying48
  have hu51 := Try.underlying51
  unfold cells27
  go_enter Try.func5, Try.ntmps5
  obtain ⟨w1, hw1⟩ : ∃ wz, w.alloc (.cells (cells27 t d) 27) = wz := ⟨_, rfl⟩
  obtain ⟨g, hg⟩ : ∃ rz, w.heap.size = rz := ⟨_, rfl⟩
  have B1 : Aside0 (Below w.heap.size w w1) := ⟨by rw [← hw1]; exact below_alloc (Below.refl _ _) _⟩
  have K1 : Aside0 (Box27 w1 g t d) := ⟨by rw [← hw1, ← hg]; exact blk_new w _⟩
  have GE : Aside0 (w.heap.size ≤ g) := ⟨by omega⟩
  unfold cells27 at hw1
  obtain ⟨q0, q1, q2, q3, q4, q5, q6, q7, q8, q9, q10⟩ := K1.out.cells
  go_wp2_with fail
  clear hw1 hg
  have HC2 := small_calls t d (HR.out.below B1.out)
  unfold cells27 at HC2
  refine HC2.mono ?_
  rintro e w2 ⟨rfl, hb⟩
  have S2 : Aside0 (St4 w w2 g t d) := ⟨⟨below_step B1.out hb, K1.out.below hb, (HR.out.below B1.out).below hb⟩⟩
  clear hb HC2 B1 K1 q0 q1 q2 q3 q4 q5 q6 q7 q8 q9 q10
  cases hs1 : smallB t with
  | false =>
    clear hs1
    go_wp2_with fail
    go_ret
    exact ⟨rfl, S2.out.b⟩
  | true =>
  have HS := Aside0.mk hs1
  clear hs1
  obtain ⟨q0, q1, q2, q3, q4, q5, q6, q7, q8, q9, q10⟩ := S2.out.k.cells
  go_wp2_with fail
  have HC2 := exp_calls t d S2.out.r HS.out
  rw [H5.out, HE.out] at HC2
  unfold cells27 at HC2
  refine HC2.mono ?_
  rintro e w3 ⟨v5, rfl, hv, hb⟩
  have S3 := Aside0.mk (S2.out.step hb)
  obtain ⟨A5, c5, rfl⟩ := Kd.S_slice hv
  have Q5 := Aside0.mk (Kd.S_reads' hv)
  clear hb hv HC2 S2 q0 q1 q2 q3 q4 q5 q6 q7 q8 q9 q10
  obtain ⟨q0, q1, q2, q3, q4, q5, q6, q7, q8, q9, q10⟩ := S3.out.k.cells
  go_wp2_with fail
  have HC2 := rexp_calls t d S3.out.r HS.out
  rw [H7.out, HE.out] at HC2
  unfold cells27 at HC2
  refine HC2.mono ?_
  rintro e w4 ⟨v7, rfl, hv, hb⟩
  have S4 := Aside0.mk (S3.out.step hb)
  obtain ⟨A7, c7, rfl⟩ := Kd.S_slice hv
  have Q7 := Aside0.mk (Kd.S_reads' hv)
  have Q5b := Aside0.mk (Kd.C_below Q5.out.2.2 hb)
  clear hb hv HC2 S3 q0 q1 q2 q3 q4 q5 q6 q7 q8 q9 q10
  obtain ⟨K, hK⟩ := HALL.out
  have HK := Aside0.mk hK
  clear hK HALL
  go_wp2_with fail
  refine (dioramalaw09_all.calls K A5 c5 l5 A7 c7 l7 true w4 Q5b.out Q5.out.2.1 Q7.out.2.2 Q7.out.2.1 HK.out).mono ?_
  rintro e w5 ⟨rfl, hb⟩
  have S5 := Aside0.mk (S4.out.step hb)
  clear hb S4 Q5 Q5b Q7
  obtain ⟨q0, q1, q2, q3, q4, q5, q6, q7, q8, q9, q10⟩ := S5.out.k.cells
  have hne : (E != E) = false := by simp
  go_wp2_with fail
  have HC2 := look_calls t d S5.out.r HS.out i
  unfold cells27 cellsT at HC2
  refine HC2.mono ?_
  rintro e w6 ⟨v8, rfl, hv, hb⟩
  have S6 := Aside0.mk (S5.out.step hb)
  have HSM := Aside0.mk (lk_small (t := t) i)
  obtain ⟨lx, hlx⟩ : ∃ z, (lkF t i).1 = z := ⟨_, rfl⟩
  obtain ⟨le, hle⟩ : ∃ z, (lkF t i).2 = z := ⟨_, rfl⟩
  rw [hlx] at hv HSM
  rw [hlx, hle]
  have HLX := Aside0.mk hlx
  have HLE := Aside0.mk hle
  obtain ⟨A8, c8, rfl⟩ := Kd.R_slice hv
  have Q8 := Aside0.mk (Kd.R_reads' hv)
  clear hb hv HC2 S5 hlx hle q0 q1 q2 q3 q4 q5 q6 q7 q8 q9 q10 hne
  obtain ⟨w7, hw7⟩ : ∃ wz, w6.alloc (.cells #[.int .i64 lx.f0, .int .i64 lx.f1, .int .i64 lx.f2, .int .i64 lx.f3, .int .i64 lx.f4, .int .i64 lx.f5, .bool lx.f6, .slice A8 lx.f7.length c8] 48) = wz := ⟨_, rfl⟩
  obtain ⟨g9, hg9⟩ : ∃ rz, w6.heap.size = rz := ⟨_, rfl⟩
  have hb7 : Below w6.heap.size w6 w7 := by rw [← hw7]; exact below_alloc (Below.refl _ _) _
  have S7 := Aside0.mk (S6.out.step hb7)
  have K9 : Aside0 (w7.heap[g9]? = some (.cells #[.int .i64 lx.f0, .int .i64 lx.f1, .int .i64 lx.f2, .int .i64 lx.f3, .int .i64 lx.f4, .int .i64 lx.f5, .bool lx.f6, .slice A8 lx.f7.length c8] 48 (0, 0))) := ⟨by rw [← hw7, ← hg9]; exact blk_new w6 _⟩
  have Q8b := Aside0.mk (Kd.C_below Q8.out.2.2 hb7)
  clear hb7 S6
  obtain ⟨q0, q1, q2, q3, q4, q5, q6, q7, q8, q9, q10⟩ := S7.out.k.cells
  go_wp2_with fail
  clear hw7 hg9
  have HC2 := rlook_calls t d S7.out.r HS.out i
  unfold cells27 cellsT at HC2
  rw [HLX.out, HLE.out] at HC2
  refine HC2.mono ?_
  rintro e w8 ⟨A9, c9, rfl, hlc, hv, hb⟩
  have S8 := Aside0.mk (S7.out.step hb)
  have K9b := Aside0.mk (blk_below K9.out hb)
  have Q8c := Aside0.mk (Kd.C_below Q8b.out hb)
  have Q9 := Aside0.mk (And.intro hlc hv)
  clear hlc
  clear hb hv HC2 S7 K9 Q8b q0 q1 q2 q3 q4 q5 q6 q7 q8 q9 q10
  obtain ⟨w9, hw9⟩ : ∃ wz, w8.alloc (.cells #[.int .i64 lx.f0, .int .i64 lx.f1, .int .i64 lx.f2, .int .i64 lx.f3, .int .i64 lx.f4, .int .i64 lx.f5, .bool lx.f6, .slice A9 lx.f7.length c9] 51) = wz := ⟨_, rfl⟩
  obtain ⟨g11, hg11⟩ : ∃ rz, w8.heap.size = rz := ⟨_, rfl⟩
  have hb9 : Below w8.heap.size w8 w9 := by rw [← hw9]; exact below_alloc (Below.refl _ _) _
  have S9 := Aside0.mk (S8.out.step hb9)
  have K9c := blk_below K9b.out hb9
  have K11 : w9.heap[g11]? = some (.cells #[.int .i64 lx.f0, .int .i64 lx.f1, .int .i64 lx.f2, .int .i64 lx.f3, .int .i64 lx.f4, .int .i64 lx.f5, .bool lx.f6, .slice A9 lx.f7.length c9] 51 (0, 0)) := by rw [← hw9, ← hg11]; exact blk_new w8 _
  have Q8d := Aside0.mk (Kd.C_below Q8c.out hb9)
  have Q9b := Aside0.mk (Kd.C_below Q9.out.2 hb9)
  clear hb9 S8 K9b Q8c
  obtain ⟨a0, a1, a2, a3, a4, a5, a6, a7, -, -, -, -, -, -, -, -⟩ := bcells8 K9c
  obtain ⟨b0, b1, b2, b3, b4, b5, b6, b7, -, -, -, -, -, -, -, -⟩ := bcells8 K11
  clear K9c K11
  obtain ⟨K2, hK2⟩ := same_ev lx.f0 lx.f1 lx.f2 lx.f3 lx.f4 lx.f5 lx.f6 HSM.out
  have HK2 := Aside0.mk (hK2 K2 (Nat.le_refl _))
  clear hK2
  have heq : (le == le) = true := by simp
  go_wp2_with fail
  clear hw9 hg11 a0 a1 a2 a3 a4 a5 a6 a7 b0 b1 b2 b3 b4 b5 b6 b7
  refine (dioramalaw09_same.calls K2 lx.f0 lx.f1 lx.f2 lx.f3 lx.f4 lx.f5 lx.f6 A8 c8 lx.f7 lx.f0 lx.f1 lx.f2 lx.f3 lx.f4 lx.f5 lx.f6 A9 c9 lx.f7 true w9 Q8d.out Q8.out.2.1 Q9b.out Q9.out.1 HK2.out).mono ?_
  rintro e w10 ⟨rfl, hb⟩
  have B10 := Aside0.mk (below_step S9.out.b hb)
  clear hb S9
  go_wp2_with fail
  refine (awake_calls (w := w10)).mono ?_
  rintro e w11 ⟨rfl, hb⟩
  have B11 := Aside0.mk (below_step B10.out hb)
  clear hb B10
  go_wp2_with fail
  go_ret
  exact ⟨rfl, B11.out⟩
def dioramalaw09_TableExpands.f (a0_0 : Int) (l0_1 : List S83) (l0_2 : List S83) (l0_3 : List Int) (a0_4 : Bool) (a0_5 : Int) (l0_6 : List Int) (l0_7 : List S86) (l0_8 : List Int) (l0_9 : List S83) (l0_10 : List (List Int)) (a1 : Int) : Option Bool := some true
theorem dioramalaw09_TableExpands.calls (a0_0 : Int) (A0_1 : Option Addr) (c0_1 : Nat) (l0_1 : List S83) (A0_2 : Option Addr) (c0_2 : Nat) (l0_2 : List S83) (A0_3 : Option Addr) (c0_3 : Nat) (l0_3 : List Int) (a0_4 : Bool) (a0_5 : Int) (A0_6 : Option Addr) (c0_6 : Nat) (l0_6 : List Int) (A0_7 : Option Addr) (c0_7 : Nat) (l0_7 : List S86) (A0_8 : Option Addr) (c0_8 : Nat) (l0_8 : List Int) (A0_9 : Option Addr) (c0_9 : Nat) (l0_9 : List S83) (A0_10 : Option Addr) (c0_10 : Nat) (l0_10 : List (List Int)) (a1 : Int) (r : Bool) (w : World) (hr0_1 : Kd.C k83 w A0_1 l0_1.length l0_1) (hc0_1 : l0_1.length ≤ c0_1) (hr0_2 : Kd.C k83 w A0_2 l0_2.length l0_2) (hc0_2 : l0_2.length ≤ c0_2) (hr0_3 : Kd.C (Kd.int .i64) w A0_3 l0_3.length l0_3) (hc0_3 : l0_3.length ≤ c0_3) (hr0_6 : Kd.C (Kd.int .i64) w A0_6 l0_6.length l0_6) (hc0_6 : l0_6.length ≤ c0_6) (hr0_7 : Kd.C k86 w A0_7 l0_7.length l0_7) (hc0_7 : l0_7.length ≤ c0_7) (hr0_8 : Kd.C (Kd.int .i64) w A0_8 l0_8.length l0_8) (hc0_8 : l0_8.length ≤ c0_8) (hr0_9 : Kd.C k83 w A0_9 l0_9.length l0_9) (hc0_9 : l0_9.length ≤ c0_9) (hr0_10 : Kd.C (Kd.slice 3 (Kd.int .i64)) w A0_10 l0_10.length l0_10) (hc0_10 : l0_10.length ≤ c0_10) (h : dioramalaw09_TableExpands.f a0_0 l0_1 l0_2 l0_3 a0_4 a0_5 l0_6 l0_7 l0_8 l0_9 l0_10 a1 = some r) :
    Calls Try.prog 5 #[.agg #[.int .i64 a0_0, .slice A0_1 l0_1.length c0_1, .slice A0_2 l0_2.length c0_2, .slice A0_3 l0_3.length c0_3, .bool a0_4, .int .i64 a0_5, .slice A0_6 l0_6.length c0_6, .slice A0_7 l0_7.length c0_7, .slice A0_8 l0_8.length c0_8, .slice A0_9 l0_9.length c0_9, .slice A0_10 l0_10.length c0_10], .int .i64 a1] w fun e w' => e = .returned (.bool r) ∧ Below w.heap.size w w' := by
  cases h
  exact exps_calls (⟨a0_0, l0_1, l0_2, l0_3, a0_4, a0_5, l0_6, l0_7, l0_8, l0_9, l0_10⟩ : S27) (⟨A0_1, c0_1, A0_2, c0_2, A0_3, c0_3, A0_6, c0_6, A0_7, c0_7, A0_8, c0_8, A0_9, c0_9, A0_10, c0_10⟩ : D27) ⟨hr0_1, hr0_2, hr0_3, hr0_6, hr0_7, hr0_8, hr0_9, hr0_10, hc0_1, hc0_2, hc0_3, hc0_6, hc0_7, hc0_8, hc0_9, hc0_10⟩ a1
end Go.Proofs.Ytmbhafgnmdfjhaa.QTab
