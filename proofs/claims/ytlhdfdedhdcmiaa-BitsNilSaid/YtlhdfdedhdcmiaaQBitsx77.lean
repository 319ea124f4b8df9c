/- Part of a proof: functions of the program as Lean functions, and that the machine's calls come to them. Made by a program of this session (wip/mp). -/
import Derived.Test.YtlhdfdedhdcmiaaQBitsx0
import Derived.Test.YtlhdfdedhdcmiaaQBitsx10
namespace Go.Proofs.Ytlhdfdedhdcmiaa.QBits
open Go.RowKit Go.Proofs.YtlhdfdedhdcmiaaW.PrintWords Go.Proofs.YtlhdfdedhdcmiaaW.PrintLast Go.Proofs.YtlhdfdedhdcmiaaW.PrintMore
attribute [local go_sem] max2_int min2_int max_two min_two max_three min_three max_four min_four   -- for this text's walks alone
set_option linter.unusedVariables false
set_option linter.unusedSimpArgs false

/-! ### dioramalaw01_BitsNil: function 11 -/
theorem nil_dead (w : World) : Calls Try.prog 80 #[.pointer none] w fun e w' => e = .returned (.bool true) ∧ Drawn0 w w' := by
  go_enter Try.func80, Try.ntmps80
  go_wp2
  go_ret
  exact ⟨rfl, 0, rfl⟩
theorem nil_Put (v : Int) (n : Int) (w : World) : Calls Try.prog 57 #[.pointer none, .int .i64 v, .int .i64 n] w fun e w' => e = .returned (.int .i64 4) ∧ Drawn0 w w' := by
  go_enter Try.func57, Try.ntmps57
  go_wp2_with fail
  refine (nil_dead _).mono ?_
  rintro e w' ⟨rfl, ⟨nd, rfl⟩⟩
  go_wp2
  go_ret
  exact ⟨rfl, nd, rfl⟩
theorem nil_WUnary (n : Int) (w : World) : Calls Try.prog 58 #[.pointer none, .int .i64 n] w fun e w' => e = .returned (.int .i64 4) ∧ Drawn0 w w' := by
  go_enter Try.func58, Try.ntmps58
  go_wp2_with fail
  refine (nil_dead _).mono ?_
  rintro e w' ⟨rfl, ⟨nd, rfl⟩⟩
  go_wp2
  go_ret
  exact ⟨rfl, nd, rfl⟩
theorem nil_WRice (v : Int) (n : Int) (w : World) : Calls Try.prog 59 #[.pointer none, .int .i64 v, .int .i64 n] w fun e w' => e = .returned (.int .i64 4) ∧ Drawn0 w w' := by
  go_enter Try.func59, Try.ntmps59
  go_wp2_with fail
  refine (nil_dead _).mono ?_
  rintro e w' ⟨rfl, ⟨nd, rfl⟩⟩
  go_wp2
  go_ret
  exact ⟨rfl, nd, rfl⟩
theorem nil_WGrow (v : Int) (w : World) : Calls Try.prog 60 #[.pointer none, .int .i64 v] w fun e w' => e = .returned (.int .i64 4) ∧ Drawn0 w w' := by
  go_enter Try.func60, Try.ntmps60
  go_wp2_with fail
  refine (nil_dead _).mono ?_
  rintro e w' ⟨rfl, ⟨nd, rfl⟩⟩
  go_wp2
  go_ret
  exact ⟨rfl, nd, rfl⟩
theorem nil_WAlign (w : World) : Calls Try.prog 61 #[.pointer none] w fun e w' => e = .returned (.tuple #[]) ∧ Drawn0 w w' := by
  go_enter Try.func61, Try.ntmps61
  go_wp2_with fail
  refine (nil_dead _).mono ?_
  rintro e w' ⟨rfl, ⟨nd, rfl⟩⟩
  go_wp2
  first | go_end0 | ((try simp only [Exit.inBlock, Exit.then]); refine bodyPost_ret (results_none rfl _ _ _) rfl ?_)
  exact ⟨rfl, nd, rfl⟩
theorem nil_Len (w : World) : Calls Try.prog 54 #[.pointer none] w fun e w' => e = .returned (.int .i64 0) ∧ Drawn0 w w' := by
  go_enter Try.func54, Try.ntmps54
  go_wp2
  go_ret
  exact ⟨rfl, 0, rfl⟩
theorem nil_Bytes (w : World) : Calls Try.prog 55 #[.pointer none] w fun e w' => e = .returned (.slice none 0 0) ∧ Drawn0 w w' := by
  go_enter Try.func55, Try.ntmps55
  go_wp2_with fail
  refine (nil_dead _).mono ?_
  rintro e w' ⟨rfl, ⟨nd, rfl⟩⟩
  go_wp2
  go_ret
  exact ⟨rfl, nd, rfl⟩
theorem nil_Get (n : Int) (w : World) : Calls Try.prog 38 #[.pointer none, .int .i64 n] w fun e w' => e = .returned (.tuple #[.int .i64 0, .int .i64 4]) ∧ Drawn0 w w' := by
  go_enter Try.func38, Try.ntmps38
  go_wp2
  go_ret2
  exact ⟨rfl, 0, rfl⟩
theorem nil_RUnary (n : Int) (w : World) : Calls Try.prog 40 #[.pointer none, .int .i64 n] w fun e w' => e = .returned (.tuple #[.int .i64 0, .int .i64 4]) ∧ Drawn0 w w' := by
  go_enter Try.func40, Try.ntmps40
  go_wp2
  go_ret2
  exact ⟨rfl, 0, rfl⟩
theorem nil_RRice (n : Int) (v : Int) (w : World) : Calls Try.prog 42 #[.pointer none, .int .i64 n, .int .i64 v] w fun e w' => e = .returned (.tuple #[.int .i64 0, .int .i64 4]) ∧ Drawn0 w w' := by
  go_enter Try.func42, Try.ntmps42
  go_wp2
  go_ret2
  exact ⟨rfl, 0, rfl⟩
theorem nil_RGrow (w : World) : Calls Try.prog 44 #[.pointer none] w fun e w' => e = .returned (.tuple #[.int .i64 0, .int .i64 4]) ∧ Drawn0 w w' := by
  go_enter Try.func44, Try.ntmps44
  go_wp2
  go_ret2
  exact ⟨rfl, 0, rfl⟩
theorem nil_RAlign (w : World) : Calls Try.prog 46 #[.pointer none] w fun e w' => e = .returned (.tuple #[]) ∧ Drawn0 w w' := by
  go_enter Try.func46, Try.ntmps46
  go_wp2
  first | go_end0 | ((try simp only [Exit.inBlock, Exit.then]); refine bodyPost_ret (results_none rfl _ _ _) rfl ?_)
  exact ⟨rfl, 0, rfl⟩
theorem nil_At (w : World) : Calls Try.prog 48 #[.pointer none] w fun e w' => e = .returned (.int .i64 0) ∧ Drawn0 w w' := by
  go_enter Try.func48, Try.ntmps48
  go_wp2
  go_ret
  exact ⟨rfl, 0, rfl⟩
theorem nil_Left (w : World) : Calls Try.prog 49 #[.pointer none] w fun e w' => e = .returned (.int .i64 0) ∧ Drawn0 w w' := by
  go_enter Try.func49, Try.ntmps49
  go_wp2
  go_ret
  exact ⟨rfl, 0, rfl⟩
def dioramalaw01_BitsNil.f (k : Nat) (a0_0 a0_1 a0_2 : Int) : Option (Bool) := (dioramalaw01_awake.f k)
theorem dioramalaw01_BitsNil.mono : ∀ a0 a1 a2 k, LeO (dioramalaw01_BitsNil.f k a0 a1 a2) (dioramalaw01_BitsNil.f (k + 1) a0 a1 a2) := by
  intro a0 a1 a2 k
  unfold dioramalaw01_BitsNil.f
  exact dioramalaw01_awake.mono k
set_option maxHeartbeats 4000000 in
set_option maxRecDepth 100000 in
theorem dioramalaw01_BitsNil.calls (k : Nat) (a0_0 : Int) (a0_1 : Int) (a0_2 : Int) (r : Bool) (w : World) (h : dioramalaw01_BitsNil.f k a0_0 a0_1 a0_2 = some r) :
    Calls Try.prog 11 #[.agg #[.int .i64 a0_0, .int .i64 a0_1, .int .i64 a0_2]] w fun e w' => e = .returned (.bool r) ∧ Below w.heap.size w w' := by
  unfold dioramalaw01_BitsNil.f at h
  go_enter Try.func11, Try.ntmps11

  go_wp2_with fail
  refine (nil_Put a0_2 a0_1 _).mono ?_
  rintro e w' ⟨rfl, ⟨nd, rfl⟩⟩
  go_wp2_with fail
  refine (nil_WUnary a0_1 _).mono ?_
  rintro e w' ⟨rfl, ⟨nd, rfl⟩⟩
  go_wp2_with fail
  refine (nil_WRice a0_2 a0_1 _).mono ?_
  rintro e w' ⟨rfl, ⟨nd, rfl⟩⟩
  go_wp2_with fail
  refine (nil_WGrow a0_2 _).mono ?_
  rintro e w' ⟨rfl, ⟨nd, rfl⟩⟩
  go_wp2_with fail
  refine (nil_WAlign _).mono ?_
  rintro e w' ⟨rfl, ⟨nd, rfl⟩⟩
  go_wp2_with fail
  refine (nil_RAlign _).mono ?_
  rintro e w' ⟨rfl, ⟨nd, rfl⟩⟩
  go_wp2_with fail
  refine (nil_Len _).mono ?_
  rintro e w' ⟨rfl, ⟨nd, rfl⟩⟩
  go_wp2_with fail
  refine (nil_Bytes _).mono ?_
  rintro e w' ⟨rfl, ⟨nd, rfl⟩⟩
  go_wp2_with fail
  refine (nil_At _).mono ?_
  rintro e w' ⟨rfl, ⟨nd, rfl⟩⟩
  go_wp2_with fail
  refine (nil_Left _).mono ?_
  rintro e w' ⟨rfl, ⟨nd, rfl⟩⟩
  go_wp2_with fail
  refine (nil_Get a0_1 _).mono ?_
  rintro e w' ⟨rfl, ⟨nd, rfl⟩⟩
  go_wp2_with fail
  refine (nil_RUnary a0_1 _).mono ?_
  rintro e w' ⟨rfl, ⟨nd, rfl⟩⟩
  go_wp2_with fail
  refine (nil_RRice a0_1 a0_2 _).mono ?_
  rintro e w' ⟨rfl, ⟨nd, rfl⟩⟩
  go_wp2_with fail
  refine (nil_RGrow _).mono ?_
  rintro e w' ⟨rfl, ⟨nd, rfl⟩⟩
  go_wp2_with fail
  refine (dioramalaw01_awake.calls k r _ h).mono ?_
  rintro e w' ⟨rfl, hb⟩
  go_wp2
  go_ret
  exact ⟨rfl, below_step (by repeat (first | exact Below.refl _ _ | apply below_alloc | apply pw_below_drewN | apply below_drew1)) hb⟩

end Go.Proofs.Ytlhdfdedhdcmiaa.QBits
