/- A lemma file: dioramalaw09.awake, walked. No condition. -/
import Derived.Test.YtmbhafgnmdfjhaaMNE
import Derived.Test.YtmbhafgnmdfjhaaMC
namespace Go.Proofs.Ytmbhafgnmdfjhaa.QTab
open Go.RowKit Go.Proofs.YtmbhafgnmdfjhaaW.PrintWords Go.Proofs.YtmbhafgnmdfjhaaW.PrintLast Go.Proofs.YtmbhafgnmdfjhaaW.PrintMore Go.Proofs.YtmbhafgnmdfjhaaV
set_option linter.unusedVariables false
set_option linter.unusedSimpArgs false
def awT : S27 := ⟨0, [⟨2, 10⟩, ⟨1, 15⟩], [], [], true, 4, [], [⟨1, 2⟩, ⟨2, 1⟩], [8, 40], [], []⟩
def awM (c : Nat) : Int := if c = 0 then 2 else 1
theorem aw_chk : ChkOk 40 awT 3 0 0 awM [10, 10, 15] [] (fun _ => 0) (fun _ => false) where
  t1 := fun _ => by decide +kernel
  t2 := fun _ => by decide +kernel
  t9 := fun _ => by decide +kernel
  hc := fun _ _ c hc => by
    have h : c < 2 := hc
    match c, h with
    | 0, _ => decide +kernel
    | 1, _ => decide +kernel
  v1 := fun _ _ _ => ⟨by decide +kernel, rfl⟩
  v2 := fun _ _ _ => ⟨by decide +kernel, fun h => absurd h (by simp)⟩
  b := fun _ _ i hi => absurd hi (Nat.not_lt_zero _)
theorem aw_zero : checkF awT 3 0 0 awM [10, 10, 15] [] (fun _ => false) = 0 := by decide +kernel
theorem aw_exp : ExpOk 40 awT [10, 10, 15] [] [] awM where
  n := by decide
  o := fun h => absurd h (by simp)
  d := fun h => absurd h (by simp)
  s := fun h => absurd h (by decide)
  p := fun h => absurd h (by decide)
  y := fun j hj => absurd hj (Nat.not_lt_zero _)
  c := fun c hc => by
    have h : c < 2 := hc
    match c, h with
    | 0, _ => decide +kernel
    | 1, _ => decide +kernel
  m := by decide
  l := fun i hi => absurd hi (Nat.not_lt_zero _)
def awO : List S48 := outs3 awT [10, 10, 15] [] [] awM
theorem aw_len : awO.length = 3 := by decide +kernel
theorem aw_vals : (rd_T48 awO 2).f0 = 20 ∧ (rd_T48 awO 2).f2 = 15 ∧ (rd_T48 awO 2).f4 = 40 ∧ (rd_T48 awO 1).f4 = 12 := by decide +kernel
theorem none_below {a b : World} (h : a.grownBy b none) : Below a.heap.size a b := ⟨h.os, h.tape, h.output, h.size, fun k hk => h.block k hk (by simp)⟩
set_option maxRecDepth 100000 in
set_option maxHeartbeats 2000000 in
theorem awake_calls {w : World} : Calls Try.prog 18 #[] w fun e w' => e = .returned (.bool true) ∧ Below w.heap.size w w' := by
  have hu := Try.underlying27
  have hu83 := Try.underlying83
  have hu86 := Try.underlying86
  have hu48 := Try.underlying48
  go_enter Try.func18, Try.ntmps18
  go_wp2_with (first
    | ((with_reducible refine gate_dst (N := 6) rfl ?_); refine Kd.R_lit k83 (w0 := w) w.heap.size 83 ?hg (N := 6) ?hd (xs := [⟨2, 10⟩, ⟨1, 15⟩]) (inner := [.int .i64 2, .int .i64 10, .int .i64 1, .int .i64 15]) (ok := fun _ => True) (okp := fun _ => True) ?hr ?hp (fun _ hk => hk) trivial (Below.refl _ _) (Nat.le_refl _) (by simp) ?_; (case hd => rfl); (case hg => rfl); (case hr => first | (go_simp; done) | (go_simp; rfl)); (case hp => exact Reps.snoc (cs := [.int .i64 2, .int .i64 10]) (c := [.int .i64 1, .int .i64 15]) (Reps.snoc (cs := []) (c := [.int .i64 2, .int .i64 10]) (Reps.none _ _) (k83_mkM _ _ _ ⟨2, 10⟩) rfl) (k83_mkM _ _ _ ⟨1, 15⟩) rfl); intro v w1 ho hb hg hn; obtain ⟨A1, c1, rfl⟩ := Kd.R_slice ho; have Q1 := Aside0.mk (Kd.R_reads' ho).2.2; have C1 := Aside0.mk (show 2 ≤ c1 from (Kd.R_reads' ho).2.1); have B1 := Aside0.mk hb; clear ho hb hg hn)
    | ((with_reducible refine gate_dst (N := 9) rfl ?_); refine Kd.R_lit k86 (w0 := w) w.heap.size 86 ?hg (N := 9) ?hd (xs := [⟨1, 2⟩, ⟨2, 1⟩]) (inner := [.int .i64 1, .int .i64 2, .int .i64 2, .int .i64 1]) (ok := fun _ => True) (okp := fun _ => True) ?hr ?hp (fun _ hk => hk) trivial B1.out B1.out.size (by simp) ?_; (case hd => rfl); (case hg => rfl); (case hr => first | (go_simp; done) | (go_simp; rfl)); (case hp => exact Reps.snoc (cs := [.int .i64 1, .int .i64 2]) (c := [.int .i64 2, .int .i64 1]) (Reps.snoc (cs := []) (c := [.int .i64 1, .int .i64 2]) (Reps.none _ _) (k86_mkM _ _ _ ⟨1, 2⟩) rfl) (k86_mkM _ _ _ ⟨2, 1⟩) rfl); intro v w2 ho hb hg hn; obtain ⟨A2, c2, rfl⟩ := Kd.R_slice ho; have Q2 := Aside0.mk (Kd.R_reads' ho).2.2; have C2 := Aside0.mk (show 2 ≤ c2 from (Kd.R_reads' ho).2.1); have B2 := Aside0.mk hb; have Q1 := Aside0.mk (Kd.C_below Q1.out (none_below hg)); clear ho hb hg hn)
    | ((with_reducible refine gate_dst (N := 10) rfl ?_); refine Kd.R_lit (Kd.int .i64) (w0 := w) w.heap.size 3 ?hg (N := 10) ?hd (xs := [8, 40]) (inner := [.int .i64 8, .int .i64 40]) (ok := fun _ => True) (okp := fun _ => True) ?hr ?hp (fun _ hk => hk) trivial B2.out B2.out.size (by simp) ?_; (case hd => rfl); (case hg => rfl); (case hr => first | (go_simp; done) | (go_simp; rfl)); (case hp => exact Reps.snoc (cs := [.int .i64 8]) (c := [.int .i64 40]) (Reps.snoc (cs := []) (c := [.int .i64 8]) (Reps.none _ _) (show Kd.M (Kd.int .i64) _ _ _ (8 : Int) [.int .i64 8] from rfl) rfl) (show Kd.M (Kd.int .i64) _ _ _ (40 : Int) [.int .i64 40] from rfl) rfl); intro v w3 ho hb hg hn; obtain ⟨A3, c3, rfl⟩ := Kd.R_slice ho; have Q3 := Aside0.mk (Kd.R_reads' ho).2.2; have C3 := Aside0.mk (show 2 ≤ c3 from (Kd.R_reads' ho).2.1); have B3 := Aside0.mk hb; have Q1 := Aside0.mk (Kd.C_below Q1.out (none_below hg)); have Q2 := Aside0.mk (Kd.C_below Q2.out (none_below hg)); clear ho hb hg hn))
  generalize hwz : w3.alloc _ = w4
  have hb4 : Below w3.heap.size w3 w4 := by rw [← hwz]; exact below_alloc (Below.refl _ _) _
  have B4 := Aside0.mk (below_step B3.out hb4)
  have HRr : R27 w4 awT ⟨A1, c1, none, 0, none, 0, none, 0, A2, c2, A3, c3, none, 0, none, 0⟩ := ⟨Kd.C_below Q1.out hb4, Kd.C_nil _ _, Kd.C_nil _ _, Kd.C_nil _ _, Kd.C_below Q2.out hb4, Kd.C_below Q3.out hb4, Kd.C_nil _ _, Kd.C_nil _ _, C1.out, Nat.le_refl _, Nat.le_refl _, Nat.le_refl _, C2.out, C3.out, Nat.le_refl _, Nat.le_refl _⟩
  clear hwz hb4
  have HX := expand_calls 40 awT _ HRr 0 (fun w1 h1 => by have h2 := check_calls 40 awT _ h1 3 0 0 awM [10, 10, 15] [] (fun _ => 0) (fun _ => false) aw_chk; rw [aw_zero] at h2; exact h2) [10, 10, 15] [] [] awM (fun _ => by decide +kernel) (fun _ => by decide +kernel) (fun _ => by decide +kernel) (fun _ => aw_exp)
  rw [if_pos rfl] at HX
  refine HX.mono ?_
  rintro e w5 ⟨v5, rfl, s5, hb⟩
  have s5 := Kd.S_R s5
  have B5 := Aside0.mk (below_step B4.out hb)
  rw [show outs3 awT [10, 10, 15] [] [] awM = awO from rfl] at s5
  obtain ⟨gg, co, rfl, gb, gl, cl, hg⟩ := Kd.R_form s5 (by rw [aw_len]; omega)
  rw [aw_len] at s5
  clear gb gl hg
  have hC := (Kd.R_reads' s5).2.2
  rw [aw_len] at hC
  rw [aw_len]
  clear HX hb HRr
  obtain ⟨ad, A7, c7, ea, x0, x1, x2, x3, x4, x5, x6, x7, -, -⟩ := at_T48 hC 2 (by omega) (by omega)
  obtain ⟨ad', A7', c7', ea', y0, y1, y2, y3, y4, y5, y6, y7, -, -⟩ := at_T48 hC 1 (by omega) (by omega)
  cases ea
  cases ea'
  obtain ⟨z1, z2, z3, z4⟩ := aw_vals
  rw [z1] at x0
  rw [z2] at x2
  rw [z3] at x4
  rw [z4] at y4
  clear s5 hC x1 x3 x5 x6 x7 y0 y1 y2 y3 y5 y6 y7 z1 z2 z3 z4
  simp only [show (2 : Int).toNat = 2 from rfl, show (1 : Int).toNat = 1 from rfl, add_plain] at x0 x2 x4 y4
  go_wp2_with fail
  go_ret
  exact ⟨rfl, B5.out⟩
end Go.Proofs.Ytmbhafgnmdfjhaa.QTab
