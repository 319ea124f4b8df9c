/- A lemma file: 'awake' of chapter 16 answers true. No condition. -/
import Derived.Test.YtdiemkeflmflaaaSD
namespace Go.Proofs.Ytdiemkeflmflaaa.QSound
open Go.RowKit Go.Proofs.YtdiemkeflmflaaaW.PrintWords Go.Proofs.YtdiemkeflmflaaaW.PrintLast Go.Proofs.YtdiemkeflmflaaaW.PrintMore Go.Proofs.YtdiemkeflmflaaaV
set_option linter.unusedVariables false
set_option linter.unusedSimpArgs false
theorem leftF_awake : leftF [10, 12, 14] 2 = ([10, 12], [0], 0) := by decide +kernel
set_option maxRecDepth 100000 in
set_option maxHeartbeats 2000000 in
theorem awake_calls (w : World) :
    Calls Try.prog 19 #[] w fun e w' => e = .returned (.bool true) ∧ Below w.heap.size w w' := by
  have HB := Aside0.mk (below_alloc (Below.refl _ w) (.cells #[.int .i64 10, .int .i64 12, .int .i64 14] 3))
  have ho : (w.alloc (.cells #[.int .i64 10, .int .i64 12, .int .i64 14] 3)).ownsRow w.heap.size 3 1 (.slice (some ⟨w.heap.size, 0, none⟩) 3 3) 3 (nums .i64 [10, 12, 14]) := by
    have h2 := World.ownsRow_lit (base := w.heap.size) (e := 3) (size := 1) w #[.int .i64 10, .int .i64 12, .int .i64 14] 3 (Nat.le_refl _) (by simp [maxLen]) (by simp)
    simpa [nums] using h2
  have hr : Kd.R (Kd.int .i64) 3 (w.alloc (.cells #[.int .i64 10, .int .i64 12, .int .i64 14] 3)) w.heap.size (fun _ => True) (.slice (some ⟨w.heap.size, 0, none⟩) 3 3) [10, 12, 14] := Kd.R_of_own (h1 := fun _ => rfl) (by simpa [encs, nums] using ho) (fun _ _ => trivial)
  have HR := Aside0.mk hr
  clear ho hr
  go_enter Try.func19, Try.ntmps19
  go_wp2_with fail
  refine (left_calls (w := w.alloc (.cells #[.int .i64 10, .int .i64 12, .int .i64 14] 3)) 2 (some ⟨w.heap.size, 0, none⟩) 3 [10, 12, 14] (Kd.R_reads' HR.out).2.2 (Nat.le_refl _)).mono ?_
  rw [leftF_awake]
  rintro e w2 ⟨v0, v1, rfl, h0, h1, hb⟩
  obtain ⟨A0, c0, rfl⟩ := Kd.R_slice h0
  obtain ⟨A1, c1, rfl⟩ := Kd.R_slice h1
  obtain ⟨ad0, e0, x0⟩ := Kd.at_int (Kd.R_reads' h0).2.2 1 (by omega) (by decide)
  obtain ⟨ad1, e1, x1⟩ := Kd.at_int (Kd.R_reads' h1).2.2 0 (by omega) (by decide)
  cases e0
  cases e1
  have y0 : w2.cell? ⟨ad0.block, ad0.off + 1, none⟩ = some (.int .i64 12) := x0
  have y1 : w2.cell? ad1 = some (.int .i64 0) := x1
  have H0 := Aside0.mk hb
  clear h0 h1 hb x0 x1
  go_wp2_with fail
  go_ret
  exact ⟨rfl, below_step HB.out H0.out⟩
end Go.Proofs.Ytdiemkeflmflaaa.QSound
