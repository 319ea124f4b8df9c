/- A lemma file: dioramalaw09.TableRuns, walked. No condition. -/
import Derived.Test.YtmbhafgnmdfjhaaHA
import Derived.Test.YtmbhafgnmdfjhaaHBr
import Derived.Test.YtmbhafgnmdfjhaaQTabx16
import Derived.Test.YtmbhafgnmdfjhaaQTabx17
import Derived.Test.YtmbhafgnmdfjhaaHV
import Derived.Test.YtmbhafgnmdfjhaaQTabx20
namespace Go.Proofs.Ytmbhafgnmdfjhaa.QTab
open Go.RowKit Go.Proofs.YtmbhafgnmdfjhaaW.PrintWords Go.Proofs.YtmbhafgnmdfjhaaW.PrintLast Go.Proofs.YtmbhafgnmdfjhaaW.PrintMore Go.Proofs.YtmbhafgnmdfjhaaV
set_option linter.unusedVariables false
set_option linter.unusedSimpArgs false
def dioramalaw09_TableRuns.f (k : Nat) (l0 : List Int) (l1 : List S83) : Option Bool :=
  if l0.length ≤ 400 ∧ l1.length ≤ 1000 then
    (dioramaref00_EqRuns.f k (runsF l0) (runsF l0)).bind fun e1 => (table_Values.f k (runsF l0)).bind fun v => (dioramaref00_EqInts.f k v.1 l0).bind fun e2 =>
    (table_Values.f k l1).bind fun x => (dioramaref09_Values.f k l1).bind fun y => (dioramaref00_EqInts.f k x.1 y.1).bind fun e3 =>
    if e1 = true ∧ v.2 = 0 ∧ e2 = true ∧ e3 = true ∧ x.2 = y.2 then some true else none
  else some true
set_option maxRecDepth 100000 in
set_option maxHeartbeats 2000000 in
theorem dioramalaw09_TableRuns.calls (k : Nat) (A0 : Option Addr) (c0 : Nat) (l0 : List Int) (A1 : Option Addr) (c1 : Nat) (l1 : List S83) (r : Bool) (w : World) (hr0 : Kd.C (Kd.int .i64) w A0 l0.length l0) (hc0 : l0.length ≤ c0) (hr1 : Kd.C k83 w A1 l1.length l1) (hc1 : l1.length ≤ c1) (h : dioramalaw09_TableRuns.f k l0 l1 = some r) :
    Calls Try.prog 4 #[.slice A0 l0.length c0, .slice A1 l1.length c1] w fun e w' => e = .returned (.bool r) ∧ Below w.heap.size w w' := by
  have HR0 := Aside0.mk hr0
  have HC0 := Aside0.mk hc0
  have HR1 := Aside0.mk hr1
  have HC1 := Aside0.mk hc1
  clear hr0 hc0 hr1 hc1
  unfold dioramalaw09_TableRuns.f at h
  by_cases hg : l0.length ≤ 400 ∧ l1.length ≤ 1000
  · rw [if_pos hg] at h
    obtain ⟨e1, h1, q1⟩ := Option.bind_eq_some_iff.mp h
    obtain ⟨⟨v1, v2⟩, h2, q2⟩ := Option.bind_eq_some_iff.mp q1
    obtain ⟨e2, h3, q3⟩ := Option.bind_eq_some_iff.mp q2
    obtain ⟨⟨x1, x2⟩, h4, q4⟩ := Option.bind_eq_some_iff.mp q3
    obtain ⟨⟨y1, y2⟩, h5, q5⟩ := Option.bind_eq_some_iff.mp q4
    obtain ⟨e3, h6, q6⟩ := Option.bind_eq_some_iff.mp q5
    by_cases hx : e1 = true ∧ v2 = 0 ∧ e2 = true ∧ e3 = true ∧ x2 = y2
    · rw [if_pos hx] at q6
      obtain ⟨rfl, rfl, rfl, rfl, rfl⟩ := hx
      obtain rfl := Option.some.inj q6
      have H1 := Aside0.mk h1
      have H2 := Aside0.mk h2
      have H3 := Aside0.mk h3
      have H4 := Aside0.mk h4
      have H5 := Aside0.mk h5
      have H6 := Aside0.mk h6
      have g1 : decide ((400 : Int) < (l0.length : Int)) = false := decide_eq_false (by omega)
      have g2 : decide ((1000 : Int) < (l1.length : Int)) = false := decide_eq_false (by omega)
      have g3 : decide (400 < l0.length) = false := decide_eq_false (by omega)
      have g4 : decide (1000 < l1.length) = false := decide_eq_false (by omega)
      have HG := Aside0.mk hg
      clear h q1 q2 q3 q4 q5 q6 h1 h2 h3 h4 h5 h6 hg
      go_enter Try.func4, Try.ntmps4
      go_wp2_with fail
      refine (runs_calls A0 c0 l0 HR0.out (by have := HG.out; omega)).mono ?_
      rintro e w2 ⟨Aa, ca, rfl, hla, hCa, hb⟩
      have B2 := Aside0.mk hb
      have CA := Aside0.mk hCa
      have LA := Aside0.mk hla
      clear hb hCa hla
      go_wp2_with fail
      refine (rruns_calls A0 c0 l0 (Kd.C_below HR0.out B2.out) (by have := HG.out; omega)).mono ?_
      rintro e w3 ⟨Ab, cb, rfl, hlb, hCb, hb⟩
      have B3 := Aside0.mk (below_step B2.out hb)
      have CA3 := Aside0.mk (Kd.C_below CA.out hb)
      have CB := Aside0.mk hCb
      have LB := Aside0.mk hlb
      clear hb hCb hlb CA B2
      obtain ⟨rl, hrl⟩ : ∃ z, runsF l0 = z := ⟨_, rfl⟩
      rw [hrl] at CA3 CB LA LB H1 H2 ⊢
      clear hrl
      go_wp2_with fail
      refine (dioramaref00_EqRuns.calls k Aa ca rl Ab cb rl true _ CA3.out LA.out CB.out LB.out H1.out).mono ?_
      rintro e w4 ⟨rfl, hb0⟩
      have B4 := Aside0.mk (below_step B3.out hb0.below)
      have CA4 := Aside0.mk (Kd.C_below CA3.out hb0.below)
      clear hb0 CB B3 CA3
      go_wp2_with fail
      refine (table_Values.calls k Aa ca rl v1 0 _ CA4.out LA.out H2.out).mono ?_
      rintro e w5 ⟨vv, rfl, sv, hb⟩
      obtain ⟨Av, cv, rfl⟩ := Kd.R_slice sv
      have CV := Aside0.mk (Kd.R_reads' sv).2
      have B5 := Aside0.mk (below_step B4.out hb)
      clear hb sv B4 CA4
      go_wp2_with fail
      refine (dioramaref00_EqInts.calls k Av cv v1 A0 c0 l0 true _ CV.out.2 CV.out.1 (Kd.C_below HR0.out B5.out) HC0.out H3.out).mono ?_
      rintro e w6 ⟨rfl, hb0⟩
      have B6 := Aside0.mk (below_step B5.out hb0.below)
      clear hb0 B5 CV
      go_wp2_with fail
      refine (table_Values.calls k A1 c1 l1 x1 x2 _ (Kd.C_below HR1.out B6.out) HC1.out H4.out).mono ?_
      rintro e w7 ⟨vx, rfl, sx, hb⟩
      obtain ⟨Ax, cx, rfl⟩ := Kd.R_slice sx
      have CX := Aside0.mk (Kd.R_reads' sx).2
      have B7 := Aside0.mk (below_step B6.out hb)
      clear hb sx B6
      go_wp2_with fail
      refine (dioramaref09_Values.calls k A1 c1 l1 y1 x2 _ (Kd.C_below HR1.out B7.out) HC1.out H5.out).mono ?_
      rintro e w8 ⟨vy, rfl, sy, hb⟩
      obtain ⟨Ay, cy, rfl⟩ := Kd.R_slice sy
      have CY := Aside0.mk (Kd.R_reads' sy).2
      have CX8 := Aside0.mk (Kd.C_below CX.out.2 hb)
      have B8 := Aside0.mk (below_step B7.out hb)
      clear hb sy B7
      go_wp2_with fail
      refine (dioramaref00_EqInts.calls k Ax cx x1 Ay cy y1 true _ CX8.out CX.out.1 CY.out.2 CY.out.1 H6.out).mono ?_
      rintro e w9 ⟨rfl, hb0⟩
      have B9 := Aside0.mk (below_step B8.out hb0.below)
      have hxx : (x2 == x2) = true := by simp
      clear hb0 B8 CX CY CX8
      go_wp2_with fail
      refine awake_calls.mono ?_
      rintro e w10 ⟨rfl, hb⟩
      have B10 := Aside0.mk (below_step B9.out hb)
      clear hb B9
      go_wp2_with fail
      go_ret
      exact ⟨rfl, B10.out⟩
    · rw [if_neg hx] at q6
      cases q6
  · rw [if_neg hg] at h
    obtain rfl := Option.some.inj h
    clear h
    go_enter Try.func4, Try.ntmps4
    by_cases h0 : 400 < l0.length
    · have g1 : decide ((400 : Int) < (l0.length : Int)) = true := decide_eq_true (by omega)
      have g3 : decide (400 < l0.length) = true := decide_eq_true (by omega)
      clear hg h0
      go_wp2_with fail
      go_ret
      exact ⟨rfl, Below.refl _ _⟩
    · have g1 : decide ((400 : Int) < (l0.length : Int)) = false := decide_eq_false (by omega)
      have g3 : decide (400 < l0.length) = false := decide_eq_false (by omega)
      have g2 : decide ((1000 : Int) < (l1.length : Int)) = true := decide_eq_true (by omega)
      have g4 : decide (1000 < l1.length) = true := decide_eq_true (by omega)
      clear hg h0
      go_wp2_with fail
      go_ret
      exact ⟨rfl, Below.refl _ _⟩
end Go.Proofs.Ytmbhafgnmdfjhaa.QTab
