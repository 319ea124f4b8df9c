/- A lemma file: vints, of the program and of the reference, come to the same answers. No condition. -/
import Derived.Test.YtlhdfdedhdcmiaaPInt
import Derived.Test.YtlhdfdedhdcmiaaQBitsx31
import Derived.Test.YtlhdfdedhdcmiaaQBitsx33
import Derived.Test.YtlhdfdedhdcmiaaQBitsx35
import Derived.Test.YtlhdfdedhdcmiaaQBitsx36
import Derived.Test.YtlhdfdedhdcmiaaQBitsx9
import Derived.Test.YtlhdfdedhdcmiaaQBitsx37
import Derived.Test.YtlhdfdedhdcmiaaQBitsx38
set_option linter.unusedVariables false
set_option linter.unusedSimpArgs false
namespace Go.Proofs.Ytlhdfdedhdcmiaa.Pure
open Go.RowKit Go.Proofs.Ytlhdfdedhdcmiaa.QBits Go.Proofs.YtlhdfdedhdcmiaaW.PrintWords Go.Proofs.YtlhdfdedhdcmiaaW.PrintMore Go.Proofs.YtlhdfdedhdcmiaaV
theorem one8 {n : Int} (h : 1 ≤ n) (h' : n ≤ 8) : n = 1 ∨ n = 2 ∨ n = 3 ∨ n = 4 ∨ n = 5 ∨ n = 6 ∨ n = 7 ∨ n = 8 := by omega
def allS (n : Int) : Int := 2 ^ (7 * n.toNat) - 1
def halfS (n : Int) : Int := 2 ^ (7 * n.toNat - 1) - 1
theorem all_p {n : Int} (h : 1 ≤ n) (h' : n ≤ 8) : bits_all.f n = some (allS n) := by
  rcases one8 h h' with rfl | rfl | rfl | rfl | rfl | rfl | rfl | rfl <;> decide +kernel
theorem all_r {n : Int} (h : 1 ≤ n) (h' : n ≤ 8) : dioramaref01_most.f n = some (allS n) := by
  rcases one8 h h' with rfl | rfl | rfl | rfl | rfl | rfl | rfl | rfl <;> decide +kernel
theorem half_p {n : Int} (h : 1 ≤ n) (h' : n ≤ 8) : bits_half.f n = some (halfS n) := by
  rcases one8 h h' with rfl | rfl | rfl | rfl | rfl | rfl | rfl | rfl <;> decide +kernel
theorem half_r {n : Int} (h : 1 ≤ n) (h' : n ≤ 8) : dioramaref01_half.f n = some (halfS n) := by
  rcases one8 h h' with rfl | rfl | rfl | rfl | rfl | rfl | rfl | rfl <;> decide +kernel
theorem all_bd {n : Int} (h : 1 ≤ n) (h' : n ≤ 8) : 0 < allS n ∧ allS n ≤ 72057594037927935 ∧ allS n + 1 = 2 ^ (7 * n.toNat) ∧ 2 * halfS n + 1 = allS n ∧ 0 ≤ halfS n := by
  rcases one8 h h' with rfl | rfl | rfl | rfl | rfl | rfl | rfl | rfl <;> decide +kernel
theorem sh_p {n : Int} (h : 1 ≤ n) (h' : n ≤ 8) : shl .u64 1 (wrap64 (7 * n)) = 2 ^ (7 * n.toNat) ∧ shl .i64 1 (IntKind.u64.wrap (wrap64 (7 * n))) = 2 ^ (7 * n.toNat) ∧ 0 ≤ wrap64 (7 * n) ∧ 0 ≤ IntKind.u64.wrap (wrap64 (7 * n)) := by
  rcases one8 h h' with rfl | rfl | rfl | rfl | rfl | rfl | rfl | rfl <;> decide +kernel
theorem mark_ev {v n : Int} (h : 1 ≤ n) (h' : n ≤ 8) (h0 : 0 ≤ v) (h1 : v ≤ allS n) : Ev (fun k => bits_mark.f k v n) (bigS (v + allS n + 1) n.toNat) := by
  obtain ⟨s1, _, s3, _⟩ := sh_p h h'
  obtain ⟨a1, a2, a3, _⟩ := all_bd h h'
  unfold bits_mark.f
  simp only [if_pos s3]
  rw [s1, or_pow (7 * n.toNat) (by omega) h0 (by omega), ← a3, ← Int.add_assoc]
  exact Ev.bind (big_ev (by omega) (by omega)) (Ev.now _)
/-- A vint of n bytes. -/
def pvS (v n : Int) : List Int × Int := if v ≥ allS n then ([], 1) else (bigS (v + allS n + 1) n.toNat, 0)
theorem pv_j2 {v n : Int} (h : 1 ≤ n) (h' : n ≤ 8) (h0 : 0 ≤ v) (hv : v ≤ 9223372036854775807) : Ev (fun k => bits_PutVint.j2 k v n) (pvS v n) := by
  obtain ⟨a1, a2, a3, _⟩ := all_bd h h'
  refine Ev.step (f := fun k => if v ≥ allS n then some ([], 1) else (bits_mark.f k (IntKind.u64.wrap v) n).bind fun t => some (t, 0)) (fun k => by simp only [bits_PutVint.j2, all_p h h', Option.bind_some]) ?_
  unfold pvS
  by_cases c : v ≥ allS n
  · simp only [if_pos c]; exact Ev.now _
  · simp only [if_neg c]
    rw [u64w h0 (by omega)]
    exact Ev.bind (mark_ev h h' h0 (by omega)) (Ev.now _)
theorem rpv_j2 {v n : Int} (h : 1 ≤ n) (h' : n ≤ 8) (h0 : 0 ≤ v) (hv : v ≤ 9223372036854775807) : Ev (fun k => dioramaref01_PutVint.j2 k v n) (pvS v n) := by
  obtain ⟨_, s2, _, s4⟩ := sh_p h h'
  obtain ⟨a1, a2, a3, _⟩ := all_bd h h'
  refine Ev.step (f := fun k => if v ≥ allS n then some ([], 1) else (dioramaref01_Bytes.f k (wrap64 (v + 2 ^ (7 * n.toNat))) n).bind fun t => some (t, 0)) (fun k => by simp only [dioramaref01_PutVint.j2, all_r h h', Option.bind_some]; rw [if_pos s4, s2]) ?_
  unfold pvS
  by_cases c : v ≥ allS n
  · simp only [if_pos c]; exact Ev.now _
  · simp only [if_neg c]
    rw [← a3, ← Int.add_assoc, w64 (by omega) (by omega)]
    exact Ev.bind (rbig_ev (by omega) (by omega) (by omega) (by omega)) (Ev.now _)
theorem pvS_len {v n : Int} (h' : n ≤ 8) : (pvS v n).1.length ≤ 8 := by
  unfold pvS
  split
  · simp
  · simp only [bigS_length]; omega
theorem pv_l0 {v : Int} (h0 : 0 ≤ v) (hv : v ≤ 9223372036854775807) : ∀ (d : Nat) (n : Int), 1 ≤ n → n + d = 8 → Same (fun k => bits_PutVint.l0 k v n) (fun k => dioramaref01_PutVint.l0 k v n) (fun r => r.1.length ≤ 8)
  | 0, n, h, he => Same.step (p' := fun k => bits_PutVint.j2 k v n) (q' := fun k => dioramaref01_PutVint.j2 k v n) (fun k => by simp only [bits_PutVint.l0]; rw [if_neg (by omega)]) (fun k => by simp only [dioramaref01_PutVint.l0]; rw [if_neg (by omega)])
      (Same.of (pv_j2 h (by omega) h0 hv) (rpv_j2 h (by omega) h0 hv) (pvS_len (by omega)))
  | d + 1, n, h, he => by
    by_cases c : v ≥ allS n
    · refine Same.step (p' := fun k => bits_PutVint.l0 k v (n + 1)) (q' := fun k => dioramaref01_PutVint.l0 k v (n + 1)) (fun k => ?_) (fun k => ?_) (pv_l0 h0 hv d (n + 1) (by omega) (by omega))
      · simp only [bits_PutVint.l0]; rw [if_pos (by omega), all_p h (by omega), Option.bind_some, if_pos c, w64 (by omega) (by omega)]
      · simp only [dioramaref01_PutVint.l0]; rw [if_pos (by omega), all_r h (by omega), Option.bind_some, if_pos c, w64 (by omega) (by omega)]
    · refine Same.step (p' := fun k => bits_PutVint.j2 k v n) (q' := fun k => dioramaref01_PutVint.j2 k v n) (fun k => ?_) (fun k => ?_) (Same.of (pv_j2 h (by omega) h0 hv) (rpv_j2 h (by omega) h0 hv) (pvS_len (by omega)))
      · simp only [bits_PutVint.l0]; rw [if_pos (by omega), all_p h (by omega), Option.bind_some, if_neg c]
      · simp only [dioramaref01_PutVint.l0]; rw [if_pos (by omega), all_r h (by omega), Option.bind_some, if_neg c]
theorem pv_same {v n : Int} (hv : v ≤ 9223372036854775807) : Same (fun k => bits_PutVint.f k v n) (fun k => dioramaref01_PutVint.f k v n) (fun r => r.1.length ≤ 8) := by
  have bad : Same (fun k => bits_PutVint.j0 k v n true) (fun k => dioramaref01_PutVint.j0 k v n true) (fun r => r.1.length ≤ 8) :=
    Same.step (p' := fun _ => some ([], 1)) (q' := fun _ => some ([], 1)) (fun k => by simp only [bits_PutVint.j0]; rw [if_pos trivial]) (fun k => by simp only [dioramaref01_PutVint.j0]; rw [if_pos trivial]) (Same.now (by simp))
  unfold bits_PutVint.f dioramaref01_PutVint.f
  by_cases h1 : n < 0
  · simp only [if_pos h1]; exact bad
  · by_cases h2 : n > 8
    · simp only [if_neg h1, if_pos h2]; exact bad
    · simp only [if_neg h1, if_neg h2]
      by_cases h3 : v < 0
      · simp only [decide_eq_true h3]; exact bad
      · simp only [decide_eq_false h3]
        by_cases h4 : n = 0
        · exact Same.step (p' := fun k => bits_PutVint.l0 k v 1) (q' := fun k => dioramaref01_PutVint.l0 k v 1) (fun k => by simp only [bits_PutVint.j0]; rw [if_neg (by simp), if_pos h4]) (fun k => by simp only [dioramaref01_PutVint.j0]; rw [if_neg (by simp), if_pos h4]) (pv_l0 (by omega) hv 7 1 (by omega) (by omega))
        · exact Same.step (p' := fun k => bits_PutVint.j2 k v n) (q' := fun k => dioramaref01_PutVint.j2 k v n) (fun k => by simp only [bits_PutVint.j0]; rw [if_neg (by simp), if_neg h4]) (fun k => by simp only [dioramaref01_PutVint.j0]; rw [if_neg (by simp), if_neg h4]) (Same.of (pv_j2 (by omega) (by omega) (by omega) hv) (rpv_j2 (by omega) (by omega) (by omega) hv) (pvS_len (by omega)))
theorem unknown_same {n : Int} : Same (fun k => bits_Unknown.f k n) (fun k => dioramaref01_Unknown.f k n) (fun r => r.1.length ≤ 8) := by
  have bad : Same (fun k => bits_Unknown.j0 k n true) (fun k => dioramaref01_Unknown.j0 k n true) (fun r => r.1.length ≤ 8) :=
    Same.step (p' := fun _ => some ([], 1)) (q' := fun _ => some ([], 1)) (fun k => by simp only [bits_Unknown.j0]; rw [if_pos trivial]) (fun k => by simp only [dioramaref01_Unknown.j0]; rw [if_pos trivial]) (Same.now (by simp))
  unfold bits_Unknown.f dioramaref01_Unknown.f
  by_cases h1 : n < 1
  · simp only [if_pos h1]; exact bad
  · simp only [if_neg h1]
    by_cases h2 : n > 8
    · simp only [decide_eq_true h2]; exact bad
    · simp only [decide_eq_false h2]
      have h : 1 ≤ n := by omega
      have h' : n ≤ 8 := by omega
      obtain ⟨a1, a2, a3, _⟩ := all_bd h h'
      have e : wrap64 (wrap64 (2 * wrap64 (allS n + 1)) - 1) = allS n + allS n + 1 := by
        rw [w64 (x := allS n + 1) (by omega) (by omega), w64 (x := 2 * (allS n + 1)) (by omega) (by omega), w64 (by omega) (by omega)]; omega
      refine Same.step (p' := fun k => (bits_mark.f k (IntKind.u64.wrap (allS n)) n).bind fun t => some (t, 0)) (q' := fun k => (dioramaref01_Bytes.f k (wrap64 (wrap64 (2 * wrap64 (allS n + 1)) - 1)) n).bind fun t => some (t, 0))
        (fun k => by simp only [bits_Unknown.j0]; rw [if_neg (by simp), all_p h h', Option.bind_some]) (fun k => by simp only [dioramaref01_Unknown.j0]; rw [if_neg (by simp), all_r h h', Option.bind_some]) ?_
      rw [u64w (by omega) (by omega), e]
      exact Same.of (Ev.bind (mark_ev h h' (by omega) (by omega)) (Ev.now _)) (Ev.bind (rbig_ev (by omega) (by omega) (by omega) (by omega)) (Ev.now _)) (by simp only [bigS_length]; omega)
/-! Signed vints. -/
theorem ps_in {v n m : Int} (h : 1 ≤ n) (h' : n ≤ 8) (hm : n ≤ m) (hv : -9223372036854775808 ≤ v) (hv' : v ≤ 9223372036854775807) (c : -halfS n ≤ v ∧ v ≤ halfS n) : Ev (fun k => bits_PutSigned.l0 k v m n) (bigS (v + halfS n + allS n + 1) n.toNat, 0) := by
  obtain ⟨a1, a2, a3, a4, a5⟩ := all_bd h h'
  refine Ev.step (f := fun k => bits_PutSigned.j3 k v m n true) (fun k => ?_) (Ev.step (f := fun k => (bits_mark.f k (v + halfS n) n).bind fun t => some (t, 0)) (fun k => ?_) (Ev.bind (mark_ev h h' (by omega) (by omega)) (Ev.now _)))
  · simp only [bits_PutSigned.l0]
    rw [if_pos hm, half_p h h', Option.bind_some, w64 (by omega) (by omega), if_pos (by omega)]
    have : decide (v ≤ halfS n) = true := decide_eq_true c.2
    simp only [Option.bind_some, this]
  · simp only [bits_PutSigned.j3]
    rw [if_pos trivial, half_p h h', Option.bind_some, w64 (by omega) (by omega), u64w (by omega) (by omega)]
theorem ps_out {v n m : Int} {r : List Int × Int} (h : 1 ≤ n) (h' : n ≤ 8) (hm : n ≤ m) (hv : -9223372036854775808 ≤ v) (hv' : v ≤ 9223372036854775807) (c : ¬ (-halfS n ≤ v ∧ v ≤ halfS n)) (hr : Ev (fun k => bits_PutSigned.l0 k v m (n + 1)) r) : Ev (fun k => bits_PutSigned.l0 k v m n) r := by
  obtain ⟨a1, a2, a3, a4, a5⟩ := all_bd h h'
  refine Ev.step (f := fun k => bits_PutSigned.j3 k v m n false) (fun k => ?_) (Ev.step (f := fun k => bits_PutSigned.l0 k v m (n + 1)) (fun k => ?_) hr)
  · simp only [bits_PutSigned.l0]
    rw [if_pos hm, half_p h h', Option.bind_some, w64 (by omega) (by omega)]
    by_cases d : v ≥ -halfS n
    · rw [if_pos d]
      have : decide (v ≤ halfS n) = false := decide_eq_false (by omega)
      simp only [Option.bind_some, this]
    · rw [if_neg d]
  · simp only [bits_PutSigned.j3]
    rw [if_neg (by simp), w64 (by omega) (by omega)]
theorem ps_end {v n m : Int} (hm : m < n) : Ev (fun k => bits_PutSigned.l0 k v m n) ([], 1) :=
  Ev.step (f := fun _ => some ([], 1)) (fun k => by simp only [bits_PutSigned.l0]; rw [if_neg (by omega)]) (Ev.now _)
theorem rps_in {v n : Int} (h : 1 ≤ n) (h' : n ≤ 8) (hv : -9223372036854775808 ≤ v) (hv' : v ≤ 9223372036854775807) (c : -halfS n ≤ v ∧ v ≤ halfS n) : Ev (fun k => dioramaref01_PutSigned.j2 k v n) (bigS (v + halfS n + allS n + 1) n.toNat, 0) := by
  obtain ⟨a1, a2, a3, a4, a5⟩ := all_bd h h'
  have hz : pvS (v + halfS n) n = (bigS (v + halfS n + allS n + 1) n.toNat, 0) := by unfold pvS; rw [if_neg (by omega)]
  have hj : Ev (fun k => dioramaref01_PutVint.f k (v + halfS n) n) (bigS (v + halfS n + allS n + 1) n.toNat, 0) := by
    unfold dioramaref01_PutVint.f
    simp only [if_neg (show ¬ n < 0 by omega), if_neg (show ¬ n > 8 by omega), decide_eq_false (show ¬ v + halfS n < 0 by omega)]
    rw [← hz]
    exact Ev.step (f := fun k => dioramaref01_PutVint.j2 k (v + halfS n) n) (fun k => by simp only [dioramaref01_PutVint.j0]; rw [if_neg (by simp), if_neg (by omega)]) (rpv_j2 h h' (by omega) (by omega))
  refine Ev.step (f := fun k => dioramaref01_PutSigned.j3 k v n false) (fun k => ?_) (Ev.step (f := fun k => (dioramaref01_PutVint.f k (v + halfS n) n).bind fun b => some (b.1, b.2)) (fun k => ?_) (Ev.bind hj (Ev.now _)))
  · simp only [dioramaref01_PutSigned.j2]
    rw [half_r h h', Option.bind_some, w64 (by omega) (by omega), if_neg (by omega)]
    have : decide (v > halfS n) = false := decide_eq_false (by omega)
    simp only [Option.bind_some, this]
  · simp only [dioramaref01_PutSigned.j3]
    rw [if_neg (by simp), half_r h h', Option.bind_some, w64 (by omega) (by omega)]
theorem rps_out {v n : Int} (h : 1 ≤ n) (h' : n ≤ 8) (hv : -9223372036854775808 ≤ v) (hv' : v ≤ 9223372036854775807) (c : ¬ (-halfS n ≤ v ∧ v ≤ halfS n)) : Ev (fun k => dioramaref01_PutSigned.j2 k v n) ([], 1) := by
  obtain ⟨a1, a2, a3, a4, a5⟩ := all_bd h h'
  refine Ev.step (f := fun k => dioramaref01_PutSigned.j3 k v n true) (fun k => ?_) (Ev.step (f := fun _ => some ([], 1)) (fun k => by simp only [dioramaref01_PutSigned.j3]; rw [if_pos trivial]) (Ev.now _))
  simp only [dioramaref01_PutSigned.j2]
  rw [half_r h h', Option.bind_some, w64 (by omega) (by omega)]
  by_cases d : v < -halfS n
  · rw [if_pos d]
  · rw [if_neg d]
    have : decide (v > halfS n) = true := decide_eq_true (by omega)
    simp only [Option.bind_some, this]
theorem ps_l0 {v : Int} (hv : -9223372036854775808 ≤ v) (hv' : v ≤ 9223372036854775807) : ∀ (d : Nat) (n : Int), 1 ≤ n → n + d = 8 → Same (fun k => bits_PutSigned.l0 k v 8 n) (fun k => dioramaref01_PutSigned.l0 k v n) (fun r => r.1.length ≤ 8) := by
  intro d
  induction d with
  | zero =>
    intro n h he
    refine Same.stepr (q' := fun k => dioramaref01_PutSigned.j2 k v n) (fun k => by simp only [dioramaref01_PutSigned.l0]; rw [if_neg (by omega)]) ?_
    by_cases c : -halfS n ≤ v ∧ v ≤ halfS n
    · exact Same.of (ps_in h (by omega) (by omega) hv hv' c) (rps_in h (by omega) hv hv' c) (by simp only [bigS_length]; omega)
    · exact Same.of (ps_out h (by omega) (by omega) hv hv' c (ps_end (by omega))) (rps_out h (by omega) hv hv' c) (by simp)
  | succ d ih =>
    intro n h he
    by_cases c : -halfS n ≤ v ∧ v ≤ halfS n
    · refine Same.stepr (q' := fun k => dioramaref01_PutSigned.j2 k v n) (fun k => ?_) (Same.of (ps_in h (by omega) (by omega) hv hv' c) (rps_in h (by omega) hv hv' c) (by simp only [bigS_length]; omega))
      obtain ⟨a1, a2, a3, a4, a5⟩ := all_bd (n := n) h (by omega)
      simp only [dioramaref01_PutSigned.l0]
      rw [if_pos (by omega), half_r h (by omega), Option.bind_some, w64 (by omega) (by omega), if_neg (by omega)]
      first | rw [if_neg (by omega)] | rw [Option.bind_some, if_neg (by omega)]
    · obtain ⟨r, h1, h2, h3⟩ := ih (n + 1) (by omega) (by omega)
      refine ⟨r, ps_out h (by omega) (by omega) hv hv' c h1, Ev.step (f := fun k => dioramaref01_PutSigned.l0 k v (n + 1)) (fun k => ?_) h2, h3⟩
      obtain ⟨a1, a2, a3, a4, a5⟩ := all_bd (n := n) h (by omega)
      simp only [dioramaref01_PutSigned.l0]
      rw [if_pos (by omega), half_r h (by omega), Option.bind_some, w64 (x := -halfS n) (by omega) (by omega), w64 (x := n + 1) (by omega) (by omega)]
      by_cases e : v < -halfS n
      · rw [if_pos e]
      · rw [if_neg e]
        first | rw [if_pos (by omega)] | rw [Option.bind_some, if_pos (by omega)]
theorem ps_same {v n : Int} (hv : -9223372036854775808 ≤ v) (hv' : v ≤ 9223372036854775807) : Same (fun k => bits_PutSigned.f k v n) (fun k => dioramaref01_PutSigned.f k v n) (fun r => r.1.length ≤ 8) := by
  have bad : Same (fun k => bits_PutSigned.j0 k v n true) (fun k => dioramaref01_PutSigned.j0 k v n true) (fun r => r.1.length ≤ 8) :=
    Same.step (p' := fun _ => some ([], 1)) (q' := fun _ => some ([], 1)) (fun k => by simp only [bits_PutSigned.j0]; rw [if_pos trivial]) (fun k => by simp only [dioramaref01_PutSigned.j0]; rw [if_pos trivial]) (Same.now (by simp))
  unfold bits_PutSigned.f dioramaref01_PutSigned.f
  by_cases h1 : n < 0
  · simp only [if_pos h1]; exact bad
  · simp only [if_neg h1]
    by_cases h2 : n > 8
    · simp only [decide_eq_true h2]; exact bad
    · simp only [decide_eq_false h2]
      by_cases h4 : n = 0
      · refine Same.step (p' := fun k => bits_PutSigned.j1 k v 1 8) (q' := fun k => dioramaref01_PutSigned.l0 k v 1) (fun k => by simp only [bits_PutSigned.j0]; rw [if_neg (by simp), if_pos h4]) (fun k => by simp only [dioramaref01_PutSigned.j0]; rw [if_neg (by simp), if_pos h4]) ?_
        exact Same.stepl (p' := fun k => bits_PutSigned.l0 k v 8 1) (fun k => by simp only [bits_PutSigned.j1]) (ps_l0 hv hv' 7 1 (by omega) (by omega))
      · refine Same.step (p' := fun k => bits_PutSigned.j1 k v n n) (q' := fun k => dioramaref01_PutSigned.j2 k v n) (fun k => by simp only [bits_PutSigned.j0]; rw [if_neg (by simp), if_neg h4]) (fun k => by simp only [dioramaref01_PutSigned.j0]; rw [if_neg (by simp), if_neg h4]) ?_
        refine Same.stepl (p' := fun k => bits_PutSigned.l0 k v n n) (fun k => by simp only [bits_PutSigned.j1]) ?_
        by_cases c : -halfS n ≤ v ∧ v ≤ halfS n
        · exact Same.of (ps_in (by omega) (by omega) (by omega) hv hv' c) (rps_in (by omega) (by omega) hv hv' c) (by simp only [bigS_length]; omega)
        · exact Same.of (ps_out (by omega) (by omega) (by omega) hv hv' c (ps_end (by omega))) (rps_out (by omega) (by omega) hv hv' c) (by simp)
/-! A vint that is read. -/
/-- What a first byte b with n leading zeros and a one says: all by sight. -/
def HeadOk (b : Nat) : Prop := ∃ n : Int, 1 ≤ n ∧ n ≤ 8 ∧ bits_LeadingZeros8.f (b : Int) = some (n - 1) ∧ Go.bits .and .i64 (b : Int) (shr .i64 255 n) = (b : Int) - 2 ^ (8 - n.toNat) ∧ 0 ≤ (b : Int) - 2 ^ (8 - n.toNat) ∧
  ((b : Int) - 2 ^ (8 - n.toNat) + 1) * 256 ^ (n.toNat - 1) ≤ 72057594037927936 ∧ shl .i64 1 (8 - n) = 2 ^ (8 - n.toNat) ∧ shr .u8 (b : Int) (8 - n) ≠ 0 ∧ ∀ m : Fin 8, (m.val : Int) + 1 < n → shr .u8 (b : Int) (8 - ((m.val : Int) + 1)) = 0
def headN (b : Nat) : Int := 9 - Lib.bitLen b
def HeadOkB (b : Nat) : Bool := let n := headN b; decide (1 ≤ n) && decide (n ≤ 8) && decide (bits_LeadingZeros8.f (b : Int) = some (n - 1)) && decide (Go.bits .and .i64 (b : Int) (shr .i64 255 n) = (b : Int) - 2 ^ (8 - n.toNat)) && decide (0 ≤ (b : Int) - 2 ^ (8 - n.toNat)) &&
  decide (((b : Int) - 2 ^ (8 - n.toNat) + 1) * 256 ^ (n.toNat - 1) ≤ 72057594037927936) && decide (shl .i64 1 (8 - n) = 2 ^ (8 - n.toNat)) && decide (shr .u8 (b : Int) (8 - n) ≠ 0) && decide (∀ m : Fin 8, (m.val : Int) + 1 < n → shr .u8 (b : Int) (8 - ((m.val : Int) + 1)) = 0)
theorem heads : ∀ b : Fin 256, b.val = 0 ∨ HeadOkB b.val = true := by decide +kernel
theorem head_ok {b : Int} (h0 : 0 < b) (h1 : b ≤ 255) : ∃ bn : Nat, b = (bn : Int) ∧ HeadOk bn := by
  obtain ⟨bn, rfl⟩ := Int.eq_ofNat_of_zero_le (show 0 ≤ b by omega)
  refine ⟨bn, rfl, ?_⟩
  have := heads ⟨bn, by omega⟩
  rcases this with h | h
  · have h' : bn = 0 := h
    omega
  · simp only [HeadOkB, Bool.and_eq_true, decide_eq_true_eq] at h
    obtain ⟨⟨⟨⟨⟨⟨⟨⟨a1, a2⟩, a3⟩, a4⟩, a5⟩, a6⟩, a7⟩, a8⟩, a9⟩ := h
    exact ⟨headN bn, a1, a2, a3, a4, a5, a6, a7, a8, a9⟩
def vf (v : Int) (l : List Int) : Int := l.foldl (fun v c => v * 256 + c) v
theorem vf_snoc (v : Int) (l : List Int) (c : Int) : vf v (l ++ [c]) = vf v l * 256 + c := by unfold vf; rw [List.foldl_append]; rfl
theorem vf_bound {v : Int} (hv : 0 ≤ v) : ∀ (l : List Int), (∀ y ∈ l, 0 ≤ y ∧ y ≤ 255) → 0 ≤ vf v l ∧ vf v l + 1 ≤ (v + 1) * 256 ^ l.length := by
  intro l hl
  have h1 := numS_bound l hl
  have h2 : vf v l = v * 256 ^ l.length + numS l := foldl_num l v
  have hp : (0 : Int) < 256 ^ l.length := Int.pow_pos (by decide)
  have h3 : 0 ≤ v * 256 ^ l.length := Int.mul_nonneg hv (Int.le_of_lt hp)
  rw [h2, Int.add_mul, Int.one_mul]
  omega
theorem pow_mono256 {a b : Nat} (h : a ≤ b) : (256 : Int) ^ a ≤ 256 ^ b := by
  obtain ⟨d, rfl⟩ : ∃ d, b = a + d := ⟨b - a, by omega⟩
  rw [Int.pow_add]
  have h1 : (0 : Int) < 256 ^ d := Int.pow_pos (by decide)
  have h2 : (0 : Int) < 256 ^ a := Int.pow_pos (by decide)
  have h3 : (256 : Int) ^ a * 1 ≤ 256 ^ a * 256 ^ d := Int.mul_le_mul_of_nonneg_left (by omega) (by omega)
  omega
def finS (v n : Int) : Int × Int × Bool × Int := if v = allS n then (0, n, true, 0) else (v, n, false, 0)
theorem i64_or_byte {v c : Int} (h0 : 0 ≤ v) (h1 : v < 36028797018963968) (c0 : 0 ≤ c) (c1 : c ≤ 255) : Go.bits .or .i64 (v * 256) c = v * 256 + c :=
  bits_join .i64 63 (by decide) (fun n h h' => by rw [IntKind.wrap_i64]; omega) 8 (v * 256) c (by omega) (by omega) (by omega) c0 (by omega) (by omega)
theorem vint_l0 {v n : Int} (h : 1 ≤ n) (h' : n ≤ 8) (hv : 0 ≤ v) : ∀ (t pre : List Int), (∀ y ∈ pre ++ t, 0 ≤ y ∧ y ≤ 255) → (v + 1) * 256 ^ (pre ++ t).length ≤ 72057594037927936 → (pre ++ t).length ≤ 8 →
    Ev (fun k => bits_Vint.l0 k (vf v pre) n (pre ++ t) ((pre ++ t).length : Int) (pre.length : Int)) (finS (vf v (pre ++ t)) n)
  | [], pre, hb, hm, hl => by
    simp only [List.append_nil] at *
    refine Ev.step (f := fun _ => some (finS (vf v pre) n)) (fun k => ?_) (Ev.now _)
    simp only [bits_Vint.l0]
    rw [if_neg (by omega), all_p h h', Option.bind_some]
    unfold finS
    by_cases c : vf v pre = allS n
    · rw [if_pos c, if_pos c]
    · rw [if_neg c, if_neg c]
  | c :: t, pre, hb, hm, hl => by
    have e1 : pre ++ [c] ++ t = pre ++ c :: t := by simp
    have ih := vint_l0 h h' hv t (pre ++ [c]) (by rw [e1]; exact hb) (by rw [e1]; exact hm) (by rw [e1]; exact hl)
    have hvb := vf_bound hv pre (fun y hy => hb y (List.mem_append_left _ hy))
    have hc := hb c (by simp)
    have hm2 : (v + 1) * 256 ^ pre.length * 256 ≤ 72057594037927936 := by
      refine Int.le_trans ?_ hm
      rw [Int.mul_assoc, ← Int.pow_succ]
      exact Int.mul_le_mul_of_nonneg_left (pow_mono256 (by simp)) (by omega)
    have e2 : ((pre ++ [c]).length : Int) = wrap64 ((pre.length : Int) + 1) := by
      simp only [List.length_append, List.length_cons, List.length_nil] at hl ⊢
      rw [w64 (by omega) (by omega)]; omega
    rw [e1, e2, vf_snoc] at ih
    refine Ev.step (fun k => ?_) ih
    simp only [bits_Vint.l0]
    have er : rd (pre ++ c :: t) (pre.length : Int) = c := by simp [rd]
    rw [if_pos (by simp; omega), if_pos (by omega), if_pos (by simp; omega), er, w64 (x := c) (by omega) (by omega), w64 (x := vf v pre * 256) (by omega) (by omega), i64_or_byte hvb.1 (by omega) hc.1 hc.2]
theorem rvint_l1 {l : List Int} {a : Nat} {v : Int} {n : Nat} (h : 1 ≤ n) (h' : n ≤ 8) (hv : 0 ≤ v) (hl : l.length ≤ 9223372036854775807) (hle : a + 1 + (n - 1) ≤ l.length) : ∀ (t pre : List Int), (l.take (a + 1 + (n - 1))).drop (a + 1) = pre ++ t → (∀ y ∈ pre ++ t, 0 ≤ y ∧ y ≤ 255) → (v + 1) * 256 ^ (pre ++ t).length ≤ 72057594037927936 →
    Ev (fun k => dioramaref01_Vint.l1 k l (a : Int) (n : Int) (vf v pre) ((pre.length : Int) + 1)) (finS (vf v (pre ++ t)) n)
  | [], pre, he, hb, hm => by
    have hlen := congrArg List.length he
    rw [cut_len _ _ _ hle] at hlen
    simp only [List.append_nil] at *
    refine Ev.step (f := fun _ => some (finS (vf v pre) n)) (fun k => ?_) (Ev.now _)
    simp only [dioramaref01_Vint.l1]
    rw [if_neg (by omega), all_r (by omega) (by omega), Option.bind_some]
    unfold finS
    by_cases c : vf v pre = allS n
    · rw [if_pos c, if_pos c]
    · rw [if_neg c, if_neg c]
  | c :: t, pre, he, hb, hm => by
    have hlen := congrArg List.length he
    rw [cut_len _ _ _ hle] at hlen
    have e1 : pre ++ [c] ++ t = pre ++ c :: t := by simp
    have ih := rvint_l1 h h' hv hl hle t (pre ++ [c]) (by rw [e1]; exact he) (by rw [e1]; exact hb) (by rw [e1]; exact hm)
    have hvb := vf_bound hv pre (fun y hy => hb y (List.mem_append_left _ hy))
    have hc := hb c (by simp)
    have hm2 : (v + 1) * 256 ^ pre.length * 256 ≤ 72057594037927936 := by
      refine Int.le_trans ?_ hm
      rw [Int.mul_assoc, ← Int.pow_succ]
      exact Int.mul_le_mul_of_nonneg_left (pow_mono256 (by simp)) (by omega)
    simp only [List.length_append, List.length_cons] at hlen
    have e2 : ((pre ++ [c]).length : Int) + 1 = wrap64 ((pre.length : Int) + 1 + 1) := by
      simp only [List.length_append, List.length_cons, List.length_nil]
      rw [w64 (by omega) (by omega)]; omega
    rw [e1, e2, vf_snoc] at ih
    refine Ev.step (fun k => ?_) ih
    simp only [dioramaref01_Vint.l1]
    have er : rd l ((a : Int) + ((pre.length : Int) + 1)) = c := by
      have h1 := cut_get l (a + 1) (n - 1) pre.length (by omega)
      rw [he] at h1
      have e3 : ((a : Int) + ((pre.length : Int) + 1)).toNat = a + 1 + pre.length := by omega
      unfold rd
      rw [e3, List.getD_eq_getElem?_getD, ← h1]
      simp
    rw [if_pos (by omega), w64 (x := (a : Int) + ((pre.length : Int) + 1)) (by omega) (by omega), if_pos (by omega), if_pos (by omega), er, w64 (x := c) (by omega) (by omega), w64 (x := vf v pre * 256) (by omega) (by omega), w64 (x := vf v pre * 256 + c) (by omega) (by omega)]
theorem rvint_l0 {l : List Int} {a : Int} {bn : Nat} {n : Int} (ha : 0 ≤ a) (hal : a < l.length) (hr : rd l a = (bn : Int)) (hn : n ≤ 8) (h8 : shr .u8 (bn : Int) (8 - n) ≠ 0) (h9 : ∀ m : Fin 8, (m.val : Int) + 1 < n → shr .u8 (bn : Int) (8 - ((m.val : Int) + 1)) = 0) {r : Int × Int × Bool × Int}
    (hz : Ev (fun k => if a > wrap64 ((l.length : Int) - n) then some (0, 0, false, 3) else dioramaref01_Vint.l1 k l a n (wrap64 (wrap64 (bn : Int) - shl .i64 1 (8 - n))) 1) r) : ∀ (d : Nat) (m : Int), 1 ≤ m → m + d = n → Ev (fun k => dioramaref01_Vint.l0 k l a m) r
  | 0, m, h1, he => by
    obtain rfl : m = n := by omega
    refine Ev.step (fun k => ?_) hz
    simp only [dioramaref01_Vint.l0]
    have e : IntKind.u64.wrap (wrap64 (8 - m)) = 8 - m := by rw [w64 (by omega) (by omega), u64w (by omega) (by omega)]
    rw [if_pos ha, if_pos hal, e, if_pos (by omega), hr, if_neg h8]
  | d + 1, m, h1, he => by
    have ih := rvint_l0 ha hal hr hn h8 h9 hz d (m + 1) (by omega) (by omega)
    refine Ev.step (fun k => ?_) ih
    simp only [dioramaref01_Vint.l0]
    have e : IntKind.u64.wrap (wrap64 (8 - m)) = 8 - m := by rw [w64 (by omega) (by omega), u64w (by omega) (by omega)]
    have h10 := h9 ⟨m.toNat - 1, by omega⟩ (by simp only; omega)
    have e4 : (((m.toNat - 1 : Nat) : Int) + 1) = m := by omega
    simp only [e4] at h10
    rw [if_pos ha, if_pos hal, e, if_pos (by omega), hr, if_pos h10, w64 (by omega) (by omega)]
def VintP (r : Int × Int × Bool × Int) : Prop := r.2.2.2 = 0 → 1 ≤ r.2.1 ∧ r.2.1 ≤ 8
theorem vint_same {l : List Int} {a : Int} (hl : l.length ≤ 9223372036854775807) (hb : ∀ y ∈ l, 0 ≤ y ∧ y ≤ 255) : Same (fun k => bits_Vint.f k l a) (fun k => dioramaref01_Vint.f k l a) VintP := by
  unfold bits_Vint.f dioramaref01_Vint.f
  by_cases h1 : a < 0
  · simp only [if_pos h1]; exact Same.now (by simp [VintP])
  · simp only [if_neg h1]
    by_cases h2 : a ≥ l.length
    · simp only [if_pos h2]; exact Same.now (by simp [VintP])
    · simp only [if_neg h2, if_pos (show 0 ≤ a by omega), if_pos (show a < l.length by omega)]
      by_cases h3 : rd l a = 0
      · simp only [if_pos h3]; exact Same.now (by simp [VintP])
      · simp only [if_neg h3]
        obtain ⟨an, rfl⟩ := Int.eq_ofNat_of_zero_le (show 0 ≤ a by omega)
        have hmem : rd l (an : Int) ∈ l := by
          unfold rd
          rw [Int.toNat_natCast, List.getD_eq_getElem?_getD, List.getElem?_eq_getElem (by omega)]
          exact List.getElem_mem _
        obtain ⟨bn, hbn, n, n1, n8, q1, q2, q3, q4, q5, q6, q7⟩ := head_ok (b := rd l (an : Int)) (by have := hb _ hmem; omega) (hb _ hmem).2
        have hm := hb _ hmem
        rw [hbn] at hm
        simp only [hbn, q1, Option.bind_some]
        have en : wrap64 (n - 1 + 1) = n := by rw [w64 (by omega) (by omega)]; omega
        simp only [en]
        rw [w64 (x := (l.length : Int) - an) (by omega) (by omega)]
        obtain ⟨nn, rfl⟩ := Int.eq_ofNat_of_zero_le (show 0 ≤ n by omega)
        by_cases h4 : (l.length : Int) - an < nn
        · simp only [if_pos h4]
          refine Same.of (Ev.now _) ?_ (by simp [VintP])
          refine rvint_l0 (by omega) (by omega) hbn n8 q6 q7 ?_ (nn - 1) 1 (by omega) (by omega)
          simp only [if_pos (show (an : Int) > wrap64 ((l.length : Int) - nn) by rw [w64 (by omega) (by omega)]; omega)]
          exact Ev.now _
        · simp only [if_neg h4]
          rw [w64 (x := (an : Int) + 1) (by omega) (by omega), w64 (x := (an : Int) + nn) (by omega) (by omega), w64 (x := (bn : Int)) (by omega) (by omega), q2]
          simp only [if_pos (show (0 : Int) ≤ (nn : Int) by omega), if_pos (show (0 : Int) ≤ (an : Int) + 1 by omega), if_pos (show (an : Int) + 1 ≤ (an : Int) + nn by omega), if_pos (show (an : Int) + nn ≤ (l.length : Int) by omega), Option.bind_some]
          have e5 : ((an : Int) + nn).toNat = an + 1 + (nn - 1) := by omega
          have e6 : ((an : Int) + 1).toNat = an + 1 := by omega
          rw [e5, e6]
          have hle : an + 1 + (nn - 1) ≤ l.length := by omega
          have hcl := cut_len l (an + 1) (nn - 1) hle
          have hby : ∀ y ∈ (l.take (an + 1 + (nn - 1))).drop (an + 1), 0 ≤ y ∧ y ≤ 255 := fun y hy => hb y (List.mem_of_mem_take (List.mem_of_mem_drop hy))
          have hbig : ((bn : Int) - 2 ^ (8 - (nn : Int).toNat) + 1) * 256 ^ ((l.take (an + 1 + (nn - 1))).drop (an + 1)).length ≤ 72057594037927936 := by
            rw [hcl]; simpa using q4
          have hp := vint_l0 n1 n8 q3 ((l.take (an + 1 + (nn - 1))).drop (an + 1)) [] (by simpa using hby) (by simpa using hbig) (by rw [List.nil_append, hcl]; omega)
          have hq := rvint_l1 (l := l) (a := an) (n := nn) (by omega) (by omega) q3 hl hle ((l.take (an + 1 + (nn - 1))).drop (an + 1)) [] rfl (by simpa using hby) (by simpa using hbig)
          refine Same.of hp ?_ (by unfold VintP finS; split <;> (intro _; exact ⟨n1, n8⟩))
          refine rvint_l0 (by omega) (by omega) hbn n8 q6 q7 ?_ (nn - 1) 1 (by omega) (by omega)
          simp only [if_neg (show ¬ (an : Int) > wrap64 ((l.length : Int) - nn) by rw [w64 (by omega) (by omega)]; omega)]
          rw [q5, w64 (x := (bn : Int)) (by omega) (by omega), w64 (x := (bn : Int) - 2 ^ (8 - (nn : Int).toNat)) (by omega) (by have : (0 : Int) < 2 ^ (8 - (nn : Int).toNat) := Int.pow_pos (by decide); omega)]
          exact hq
theorem signed_same {l : List Int} {a : Int} (hl : l.length ≤ 9223372036854775807) (hb : ∀ y ∈ l, 0 ≤ y ∧ y ≤ 255) : Same (fun k => bits_Signed.f k l a) (fun k => dioramaref01_Signed.f k l a) (fun _ => True) := by
  unfold bits_Signed.f dioramaref01_Signed.f
  refine Same.bind (vint_same hl hb) (fun r hr => ?_)
  by_cases h1 : r.2.2.2 = 0
  · simp only [if_pos h1]
    by_cases h2 : r.2.2.1 = true
    · simp only [if_pos h2]; exact Same.now trivial
    · simp only [if_neg h2]
      obtain ⟨h3, h4⟩ := hr h1
      simp only [half_p h3 h4, half_r h3 h4, Option.bind_some]
      exact Same.now trivial
  · simp only [if_neg h1]; exact Same.now trivial
end Go.Proofs.Ytlhdfdedhdcmiaa.Pure
