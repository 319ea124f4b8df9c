/- A lemma file: the law SoundLeaves, walked. No condition. -/
import Derived.Test.YtdiemkeflmflaaaSI
import Derived.Test.YtdiemkeflmflaaaSE
import Derived.Test.YtdiemkeflmflaaaPEqi
namespace Go.Proofs.Ytdiemkeflmflaaa.QSound
open Go.RowKit Go.Proofs.YtdiemkeflmflaaaW.PrintWords Go.Proofs.YtdiemkeflmflaaaW.PrintLast Go.Proofs.YtdiemkeflmflaaaW.PrintMore Go.Proofs.YtdiemkeflmflaaaV
set_option linter.unusedVariables false
set_option linter.unusedSimpArgs false
theorem leftF_len (l : List Int) (o : Int) : (leftF l o).1.length ≤ l.length ∧ (leftF l o).2.1.length ≤ l.length := by
  unfold leftF
  split
  · simp
  · split
    · simp
    · simp only [leftS_length, List.length_take]; omega
set_option maxRecDepth 100000 in
set_option maxHeartbeats 2000000 in
theorem leaves_walk {w : World} (o : Int) (A0 : Option Addr) (c0 : Nat) (l0 : List Int) (hr0 : Kd.C (Kd.int .i64) w A0 l0.length l0) (hc0 : l0.length ≤ c0) :
    Calls Try.prog 3 #[.slice A0 l0.length c0, .int .i64 o] w fun e w' => e = .returned (.bool true) ∧ Below w.heap.size w w' := by
  have HR := Aside0.mk hr0
  have HC := Aside0.mk hc0
  clear hr0 hc0
  by_cases hl : 20000 < l0.length
  · have h1 : decide (20000 < (l0.length : Int)) = true := decide_eq_true (by omega)
    have h2 : decide (20000 < l0.length) = true := decide_eq_true hl
    clear hl
    go_enter Try.func3, Try.ntmps3
    go_wp2_with fail
    refine (awake_calls w).mono ?_
    rintro e w1 ⟨rfl, hb⟩
    have B1 := Aside0.mk hb
    clear hb
    go_wp2_with fail
    go_ret
    exact ⟨rfl, B1.out⟩
  · have h1 : decide (20000 < (l0.length : Int)) = false := decide_eq_false (by omega)
    have h2 : decide (20000 < l0.length) = false := decide_eq_false hl
    have HLN := Aside0.mk (leftF_len l0 o)
    have HL : Aside0 (l0.length ≤ 20000) := ⟨by omega⟩
    obtain ⟨k1, hk1⟩ := (Go.Proofs.Ytdiemkeflmflaaa.PureI.eqi_ev (l := (leftF l0 o).1) (u := (leftF l0 o).1) (by have := HLN.out; have := HL.out; omega)).rounds
    obtain ⟨k2, hk2⟩ := (Go.Proofs.Ytdiemkeflmflaaa.PureI.eqi_ev (l := (leftF l0 o).2.1) (u := (leftF l0 o).2.1) (by have := HLN.out; have := HL.out; omega)).rounds
    rw [decide_eq_true rfl] at hk1 hk2
    have HK1 := Aside0.mk hk1
    have HK2 := Aside0.mk hk2
    clear hl hk1 hk2
    have hE : ((leftF l0 o).2.2 == (leftF l0 o).2.2) = true := by simp
    go_enter Try.func3, Try.ntmps3
    go_wp2_with fail
    refine (left_calls o A0 c0 l0 HR.out HC.out).mono ?_
    rintro e w1 ⟨v0, v1, rfl, h0, h1, hb⟩
    obtain ⟨Aa, ca, rfl⟩ := Kd.R_slice h0
    obtain ⟨Ab, cb, rfl⟩ := Kd.R_slice h1
    have Ra := Aside0.mk (Kd.R_reads' h0)
    have Rb := Aside0.mk (Kd.R_reads' h1)
    have B1 := Aside0.mk hb
    clear h0 h1 hb
    go_wp2_with fail
    refine (rleft_calls o A0 c0 l0 (Kd.C_below HR.out B1.out) HC.out).mono ?_
    rintro e w2 ⟨v2, v3, rfl, h0, h1, hb⟩
    obtain ⟨Ac, cc, rfl⟩ := Kd.R_slice h0
    obtain ⟨Ad, cd, rfl⟩ := Kd.R_slice h1
    have Rc := Aside0.mk (Kd.R_reads' h0)
    have Rd := Aside0.mk (Kd.R_reads' h1)
    have B2 := Aside0.mk hb
    clear h0 h1 hb
    go_wp2_with fail
    refine (dioramaref00_EqInts.calls k1 Aa ca (leftF l0 o).1 Ac cc (leftF l0 o).1 true w2 (Kd.C_below Ra.out.2.2 B2.out) Ra.out.2.1 Rc.out.2.2 Rc.out.2.1 HK1.out).mono ?_
    rintro e w3 ⟨rfl, ⟨n3, rfl⟩⟩
    go_wp2_with fail
    refine (dioramaref00_EqInts.calls k2 Ab cb (leftF l0 o).2.1 Ad cd (leftF l0 o).2.1 true _ (Kd.C_drewN (Kd.C_below Rb.out.2.2 B2.out) n3) Rb.out.2.1 (Kd.C_drewN Rd.out.2.2 n3) Rd.out.2.1 HK2.out).mono ?_
    rintro e w4 ⟨rfl, ⟨n4, rfl⟩⟩
    go_wp2_with fail
    refine (awake_calls _).mono ?_
    rintro e w5 ⟨rfl, hb⟩
    have B5 := Aside0.mk hb
    clear hb
    go_wp2_with fail
    go_ret
    exact ⟨rfl, below_step (pw_below_drewN (below_step B1.out B2.out) _) B5.out⟩
def dioramalaw16_SoundLeaves.f (l0 : List Int) (a1 : Int) : Option (Bool) := some true
theorem dioramalaw16_SoundLeaves.calls (A0 : Option Addr) (c0 : Nat) (l0 : List Int) (a1 : Int) (r : Bool) (w : World) (hr0 : Kd.C (Kd.int .i64) w A0 l0.length l0) (hc0 : l0.length ≤ c0) (h : dioramalaw16_SoundLeaves.f l0 a1 = some r) :
    Calls Try.prog 3 #[.slice A0 l0.length c0, .int .i64 a1] w fun e w' => e = .returned (.bool r) ∧ Below w.heap.size w w' := by
  unfold dioramalaw16_SoundLeaves.f at h
  cases h
  exact leaves_walk a1 A0 c0 l0 hr0 hc0
end Go.Proofs.Ytdiemkeflmflaaa.QSound
