/- Part of a proof: functions of the program as Lean functions, and that the machine's calls come to them. Made by a program of this session (wip/mp). -/
import Derived.Test.YtlhdfdedhdcmiaaQBitsx0
import Derived.Test.YtlhdfdedhdcmiaaQBitsx1
import Derived.Test.YtlhdfdedhdcmiaaQBitsx2
import Derived.Test.YtlhdfdedhdcmiaaQBitsx10
namespace Go.Proofs.Ytlhdfdedhdcmiaa.QBits
open Go.RowKit Go.Proofs.YtlhdfdedhdcmiaaW.PrintWords Go.Proofs.YtlhdfdedhdcmiaaW.PrintLast Go.Proofs.YtlhdfdedhdcmiaaW.PrintMore
attribute [local go_sem] max2_int min2_int max_two min_two max_three min_three max_four min_four   -- for this text's walks alone
set_option linter.unusedVariables false
set_option linter.unusedSimpArgs false

/-! ### dioramalaw01_BitsSums: function 3 -/
def dioramalaw01_BitsSums.f (k : Nat) (l0 : List Int) : Option (Bool) := if (l0.length : Int) > 4000 then (some true) else ((bits_Sum.f k l0).bind fun t135 => ((dioramaref01_Sum.f k l0).bind fun t136 => (if t135 = t136 then ((bits_Sum.f k (([100, 105, 111, 114, 97, 109, 97] : List Int))).bind fun t140 => (if t140 = 0 then (some false) else ((dioramalaw01_awake.f k).bind fun t141 => (some t141)))) else (some false))))
theorem C_lit7 (W : World) (C : Array Value) (a b : Nat × Nat) (hC : C = #[.int .u8 100, .int .u8 105, .int .u8 111, .int .u8 114, .int .u8 97, .int .u8 109, .int .u8 97]) :
    Kd.C (Kd.int .u8) (W.alloc (.cells C 5 a)) (some ⟨W.heap.size, 0, none⟩) 7 ([100, 105, 111, 114, 97, 109, 97] : List Int) := by
  subst hC
  refine Kd.C_of_reads (d := (0 : Int)) (h1 := fun _ => rfl) ⟨rfl, by omega, fun _ => ⟨_, rfl, fun j hj => ?_⟩⟩
  rw [add_plain]
  have e : (W.alloc (.cells #[.int .u8 100, .int .u8 105, .int .u8 111, .int .u8 114, .int .u8 97, .int .u8 109, .int .u8 97] 5 a)).cell? ⟨W.heap.size, j, none⟩ = (#[(.int .u8 100 : Value), .int .u8 105, .int .u8 111, .int .u8 114, .int .u8 97, .int .u8 109, .int .u8 97])[j]? := by
    rw [World.cell?_alloc_mark]
  rw [e]
  match j, hj with
  | 0, _ | 1, _ | 2, _ | 3, _ | 4, _ | 5, _ | 6, _ => rfl
theorem sumN (k : Nat) (t3 : Int) (l : List Int) (n : Nat) (hn : l.length = n) (h : bits_Sum.f k l = some t3) (W : World) (a : Addr) (hC : Kd.C (Kd.int .u8) W (some a) n l) :
    Calls Try.prog 13 #[.slice (some a) n n] W fun e w' => e = .returned (.int .u32 t3) ∧ Drawn0 W w' := by
  subst hn
  exact bits_Sum.calls k (some a) _ l t3 W hC (Nat.le_refl _) h
set_option maxHeartbeats 2000000 in
set_option maxRecDepth 100000 in
theorem dioramalaw01_BitsSums.calls (k : Nat) (A0 : Option Addr) (c0 : Nat) (l0 : List Int) (r : Bool) (w : World) (hr0 : Kd.C (Kd.int .u8) w A0 l0.length l0) (hc0 : l0.length ≤ c0) (h : dioramalaw01_BitsSums.f k l0 = some r) :
    Calls Try.prog 3 #[.slice A0 l0.length c0] w fun e w' => e = .returned (.bool r) ∧ Below w.heap.size w w' := by
  have HR0 := Aside0.mk hr0
  have HC0 := Aside0.mk hc0
  clear hr0 hc0
  have H := h
  clear h
  unfold dioramalaw01_BitsSums.f at H
  have kc := fun (w : World) (C : Array Value) (n c : Nat) => Lib.run_convert_bytes_const (P := Try.prog) w 22 5 C n c Try.underlying22 Try.underlying5
  have kc2 : ∀ (w : World) (m : Nat) (C : Array Value) (n c : Nat), (convert 22 22 (.slice (some ⟨w.heap.size, 0, none⟩) n c)).run Try.prog ((w.drewN m).alloc (.cells C 5)) = .ok (.slice (some ⟨w.heap.size, 0, none⟩) n c) ((w.drewN m).alloc (.cells C 5 (C.size, C.size + 1))) := fun w m C n c => kc (w.drewN m) C n c
  by_cases c2 : (l0.length : Int) > 4000
  · rw [if_pos c2] at H
    have c2b0 : decide (4000 < (l0.length : Int)) = true := decide_eq_true c2
    have c2b1 : decide (4000 < l0.length) = true := decide_eq_true (by omega)
    clear c2
    obtain rfl := Option.some.inj H
    go_enter Try.func3, Try.ntmps3
    go_wp2
    go_ret
    exact ⟨rfl, Below.refl _ _⟩
  · rw [if_neg c2] at H
    have c2b0 : decide (4000 < (l0.length : Int)) = false := decide_eq_false c2
    have c2b1 : decide (4000 < l0.length) = false := decide_eq_false (by omega)
    clear c2
    obtain ⟨t1, A1, H⟩ := Option.bind_eq_some_iff.mp H
    obtain ⟨t2, A2, H⟩ := Option.bind_eq_some_iff.mp H
    replace A1 := Aside0.mk A1
    replace A2 := Aside0.mk A2
    by_cases c5 : t1 = t2
    · rw [if_pos c5] at H
      have c5b0 : (t1 == t2) = true := beq_iff_eq.mpr c5
      have c5b1 : (t1 != t2) = false := bne_eq_false_iff_eq.mpr c5
      clear c5
      obtain ⟨t3, A3, H⟩ := Option.bind_eq_some_iff.mp H
      replace A3 := Aside0.mk A3
      by_cases c7 : t3 = 0
      · rw [if_pos c7] at H
        obtain rfl := Option.some.inj H
        have c7b1 : (t3 != 0) = false := bne_eq_false_iff_eq.mpr c7
        have c7b0 : (t3 == 0) = true := beq_iff_eq.mpr c7
        clear c7
        go_enter Try.func3, Try.ntmps3
        go_wp2_with fail
        refine (bits_Sum.calls k _ _ l0 t1 _ HR0.out HC0.out A1.out).mono ?_
        rintro e w' ⟨rfl, ⟨nd, rfl⟩⟩
        go_wp2_with fail
        refine (dioramaref01_Sum.calls k _ _ l0 t2 _ (Kd.C_drewN HR0.out _) HC0.out A2.out).mono ?_
        rintro e w' ⟨rfl, ⟨nd2, rfl⟩⟩
        go_wp2_with fail
        refine (sumN k t3 _ 7 rfl A3.out _ _ ?hC1).mono ?_
        case hC1 => repeat (first | exact C_lit7 _ _ (7, 8) (0, 0) rfl | (with_reducible refine Kd.C_drewN ?_ _) | (with_reducible refine Kd.C_drew ?_))
        rintro e w' ⟨rfl, ⟨nd3, rfl⟩⟩
        go_wp2
        go_ret
        exact ⟨rfl, by repeat (first | exact Below.refl _ _ | apply below_alloc | apply pw_below_drewN | apply below_drew1)⟩
      · rw [if_neg c7] at H
        have c7b1 : (t3 != 0) = true := bne_iff_ne.mpr c7
        have c7b0 : (t3 == 0) = false := beq_eq_false_iff_ne.mpr c7
        clear c7
        obtain ⟨t4, A4, H⟩ := Option.bind_eq_some_iff.mp H
        replace A4 := Aside0.mk A4
        obtain rfl := Option.some.inj H
        go_enter Try.func3, Try.ntmps3
        go_wp2_with fail
        refine (bits_Sum.calls k _ _ l0 t1 _ HR0.out HC0.out A1.out).mono ?_
        rintro e w' ⟨rfl, ⟨nd, rfl⟩⟩
        go_wp2_with fail
        refine (dioramaref01_Sum.calls k _ _ l0 t2 _ (Kd.C_drewN HR0.out _) HC0.out A2.out).mono ?_
        rintro e w' ⟨rfl, ⟨nd2, rfl⟩⟩
        go_wp2_with fail
        refine (sumN k t3 _ 7 rfl A3.out _ _ ?hC).mono ?_
        case hC => repeat (first | exact C_lit7 _ _ (7, 8) (0, 0) rfl | (with_reducible refine Kd.C_drewN ?_ _) | (with_reducible refine Kd.C_drew ?_))
        rintro e w' ⟨rfl, ⟨nd3, rfl⟩⟩
        go_wp2_with fail
        refine (dioramalaw01_awake.calls k t4 _ A4.out).mono ?_
        rintro e w' ⟨rfl, hb⟩
        go_wp2
        go_ret
        exact ⟨rfl, below_step (by repeat (first | exact Below.refl _ _ | apply below_alloc | apply pw_below_drewN | apply below_drew1)) hb⟩
    · rw [if_neg c5] at H
      have c5b0 : (t1 == t2) = false := beq_eq_false_iff_ne.mpr c5
      have c5b1 : (t1 != t2) = true := bne_iff_ne.mpr c5
      clear c5
      obtain rfl := Option.some.inj H
      go_enter Try.func3, Try.ntmps3
      go_wp2_with fail
      refine (bits_Sum.calls k _ _ l0 t1 _ HR0.out HC0.out A1.out).mono ?_
      rintro e w' ⟨rfl, ⟨nd, rfl⟩⟩
      go_wp2_with fail
      refine (dioramaref01_Sum.calls k _ _ l0 t2 _ (Kd.C_drewN HR0.out _) HC0.out A2.out).mono ?_
      rintro e w' ⟨rfl, ⟨nd2, rfl⟩⟩
      go_wp2
      go_ret
      exact ⟨rfl, by repeat (first | exact Below.refl _ _ | apply below_alloc | apply pw_below_drewN | apply below_drew1)⟩

end Go.Proofs.Ytlhdfdedhdcmiaa.QBits
