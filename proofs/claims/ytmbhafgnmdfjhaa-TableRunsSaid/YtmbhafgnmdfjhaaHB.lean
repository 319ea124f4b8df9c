/- A lemma file: table.Runs and dioramaref09.Runs, walked. No condition. -/
import Derived.Test.YtmbhafgnmdfjhaaHT
import Derived.Test.YtmbhafgnmdfjhaaQTabx19
import Derived.Test.YtmbhafgnmdfjhaaQTabx19
import Derived.Test.YtmbhafgnmdfjhaaQTabx19
import Derived.Test.YtmbhafgnmdfjhaaQTabx19
namespace Go.Proofs.Ytmbhafgnmdfjhaa.QTab
open Go.RowKit Go.Proofs.YtmbhafgnmdfjhaaW.PrintWords Go.Proofs.YtmbhafgnmdfjhaaW.PrintLast Go.Proofs.YtmbhafgnmdfjhaaW.PrintMore Go.Proofs.YtmbhafgnmdfjhaaV
set_option linter.unusedVariables false
set_option linter.unusedSimpArgs false
def grow (acc : List S83) : List S83 := acc.set (acc.length - 1) ⟨wrap64 ((rd_T83 acc ((acc.length - 1 : Nat) : Int)).f0 + 1), (rd_T83 acc ((acc.length - 1 : Nat) : Int)).f1⟩
def runStep (acc : List S83) (v : Int) : List S83 :=
  if 0 < acc.length ∧ (rd_T83 acc ((acc.length - 1 : Nat) : Int)).f1 = v then grow acc else acc ++ [⟨1, v⟩]
def runsF (l : List Int) : List S83 := l.foldl runStep []
theorem runStep_len (acc : List S83) (v : Int) : (runStep acc v).length ≤ acc.length + 1 := by
  unfold runStep grow
  split <;> simp
theorem run_next {l0 : List Int} {i : Nat} (hi : i < l0.length) : (l0.take (i + 1)).foldl runStep [] = runStep ((l0.take i).foldl runStep []) (rd l0 (i : Int)) := by
  rw [List.take_add_one, List.foldl_append]
  simp [rd, List.getD_eq_getElem?_getD, List.getElem?_eq_getElem hi]
theorem run_len (l0 : List Int) : ∀ i, ((l0.take i).foldl runStep []).length ≤ i := by
  intro i
  induction i with
  | zero => simp
  | succ i ih =>
    by_cases hi : i < l0.length
    · rw [run_next hi]
      have := runStep_len ((l0.take i).foldl runStep []) (rd l0 i)
      omega
    · rw [List.take_of_length_le (by omega)]
      rw [List.take_of_length_le (by omega)] at ih
      omega
/-- Element i is written whole. -/
theorem run_put {w : World} {base g n cap : Nat} {xs : List S83} (h : Kd.R k83 83 w base (fun _ => True) (.slice (some ⟨g, 0, none⟩) n cap) xs) {i : Nat} (hi : i < n) (x : S83) :
    Kd.R k83 83 (w.setCells g (i * 2) [.int .i64 x.f0, .int .i64 x.f1]) base (fun _ => True) (.slice (some ⟨g, 0, none⟩) n cap) (xs.set i x) ∧ w.grownBy (w.setCells g (i * 2) [.int .i64 x.f0, .int .i64 x.f1]) (some g) := by
  obtain ⟨c, hcl, hM, hcc, hfr⟩ := Kd.R_elem h z83 (i : Int) (by omega) (by omega)
  have hc := k83_openM hM
  have hz : (k83).sz = 2 := rfl
  have h2 := Kd.R_seg h (i : Int) (by omega) (by omega) (c := c) (seg := [.int .i64 x.f0, .int .i64 x.f1]) (j := 0) (x' := x) (okp := fun _ => False) hcl hcc (by rw [hz]; simp) (by rw [hc]; exact k83_mkM _ _ _ x) (fun _ hk => hk.elim)
  rw [Int.toNat_natCast, hz, Nat.add_zero] at h2
  exact h2
theorem run_cells {w : World} {base g n cap : Nat} {xs : List S83} (h : Kd.R k83 83 w base (fun _ => True) (.slice (some ⟨g, 0, none⟩) n cap) xs) {i : Nat} (hi : i < n) :
    w.cell? ⟨g, i * 2, none⟩ = some (.int .i64 (rd_T83 xs i).f0) ∧ w.cell? ⟨g, i * 2 + 1, none⟩ = some (.int .i64 (rd_T83 xs i).f1) ∧ w.frozen? ⟨g, i * 2, none⟩ = false ∧ w.frozen? ⟨g, i * 2 + 1, none⟩ = false := by
  obtain ⟨c, hcl, hM, hcc, hfr⟩ := Kd.R_elem h z83 (i : Int) (by omega) (by omega)
  obtain rfl := k83_openM hM
  have h0 := hcc 0 _ rfl
  have h1 := hcc 1 _ rfl
  have f0 := hfr 0
  have f1 := hfr 1
  rw [Int.toNat_natCast] at h0 h1 f0 f1
  exact ⟨h0, h1, f0, f1⟩
set_option maxRecDepth 100000 in
set_option maxHeartbeats 1000000 in
theorem runsOf_calls {w : World} (A0 : Option Addr) (c0 : Nat) (l0 : List Int) (hr0 : Kd.C (Kd.int .i64) w A0 l0.length l0) (hl0 : l0.length ≤ 1000000) :
    Calls Try.prog 62 #[.slice A0 l0.length c0, .func (.func 63) #[] #[], .func (.func 64) #[] #[], .func (.func 65) #[] #[], .func (.func 66) #[] #[]] w fun e w' => ∃ A c, e = .returned (.slice A (runsF l0).length c) ∧ (runsF l0).length ≤ c ∧ Kd.C k83 w' A (runsF l0).length (runsF l0) ∧ Below w.heap.size w w' := by
  have hu83 := Try.underlying83
  have HR := Aside0.mk hr0
  have HL := Aside0.mk hl0
  clear hr0 hl0
  go_enter Try.func62, Try.ntmps62
  go_wp2_with fail
  go_loopg [11, 17] (l0.length + 1) (fun kq v11 v17 w' => ∃ (i : Nat), v17 = .int .i64 (i : Int) ∧ Aside0 (kq = l0.length - i + 1) ∧ Aside0 (i ≤ l0.length) ∧ Aside0 (Kd.R k83 83 w' w.heap.size (fun _ => True) v11 ((l0.take i).foldl runStep [])) ∧ Aside0 (Below w.heap.size w w'))
  case atStart => exact ⟨0, rfl, ⟨rfl⟩, ⟨Nat.zero_le _⟩, ⟨Kd.R_nil _ _ _ _ _⟩, ⟨Below.refl _ _⟩⟩
  case round =>
    obtain ⟨i, rfl, HQ, HI, HO, HB⟩ := hrel
    have hal := run_len l0 i
    obtain ⟨acc, hacc⟩ : ∃ z, (l0.take i).foldl runStep [] = z := ⟨_, rfl⟩
    rw [hacc] at HO hal
    have HAC := Aside0.mk hacc
    clear hacc
    obtain ⟨A, c, rfl⟩ := Kd.R_slice HO.out
    by_cases hi : i < l0.length
    · have e8 : wrap64 ((i : Int) + 1) = ((i + 1 : Nat) : Int) := by have := HL.out; unfold wrap64; omega
      obtain ⟨ad, e0, x0⟩ := Kd.at_int (Kd.C_below HR.out HB.out) (i : Int) (by omega) (by omega)
      cases e0
      rw [Int.toNat_natCast] at x0
      have HNX := Aside0.mk (run_next hi)
      rw [HAC.out] at HNX
      obtain ⟨v, hv⟩ : ∃ v : Int, rd l0 (i : Int) = v := ⟨_, rfl⟩
      rw [hv] at x0 HNX
      have hi1 : decide ((i : Int) < (l0.length : Int)) = true := decide_eq_true (by omega)
      have hi2 : decide (i < l0.length) = true := decide_eq_true hi
      have hi3 : (i < l0.length) = True := eq_true hi
      have HI1 := Aside0.mk hi
      have HAL := Aside0.mk (show acc.length ≤ 1000000 by have := HL.out; omega)
      clear hv hal
      by_cases hp : 0 < acc.length
      · have hp1 : decide (0 < acc.length) = true := decide_eq_true hp
        have hp2 : (0 < acc.length) = True := eq_true hp
        obtain ⟨m, hm⟩ : ∃ m : Nat, (acc.length : Int) - 1 = (m : Int) := ⟨acc.length - 1, by omega⟩
        have hm1 : wrap64 ((acc.length : Int) - 1) = (m : Int) := by have := HAL.out; unfold wrap64; omega
        have hm2 : IntKind.i64.wrap ((acc.length : Int) - 1) = (m : Int) := by rw [IntKind.wrap_i64]; have := HAL.out; omega
        have hml : m < acc.length := by omega
        have hm3 : (m < acc.length) = True := eq_true hml
        have hme : acc.length - 1 = m := by omega
        obtain ⟨g, cap, eg, gb, gl, cl, hg⟩ := Kd.R_form HO.out hp
        injection eg with eg1 eg2 eg3
        subst eg1 eg3
        obtain ⟨y0, y1, f0, f1⟩ := run_cells HO.out hml
        have HM : Aside0 (runStep acc v = if (rd_T83 acc (m : Int)).f1 = v then acc.set m ⟨wrap64 ((rd_T83 acc (m : Int)).f0 + 1), (rd_T83 acc (m : Int)).f1⟩ else acc ++ [⟨1, v⟩]) := ⟨by
          unfold runStep grow
          rw [hme]
          by_cases h : (rd_T83 acc (m : Int)).f1 = v
          · rw [if_pos ⟨hp, h⟩, if_pos h]
          · rw [if_neg (fun h2 => h h2.2), if_neg h]⟩
        obtain ⟨a0, ha0⟩ : ∃ z, (rd_T83 acc (m : Int)).f0 = z := ⟨_, rfl⟩
        obtain ⟨a1, ha1⟩ : ∃ z, (rd_T83 acc (m : Int)).f1 = z := ⟨_, rfl⟩
        rw [ha0] at y0 HM
        rw [ha1] at y1 HM
        have HA0 := Aside0.mk ha0
        have HA1 := Aside0.mk ha1
        clear ha0 ha1
        have HML := Aside0.mk hml
        clear gb gl hg hm hml hme eg2 hi hp
        go_wp2_with fail
        refine (table_Runs_1.calls a0 a1 a1 _ rfl).mono ?_
        rintro e w2 ⟨rfl, hb⟩
        have HO2 := Aside0.mk (Kd.R_below HO.out hb)
        have HB2 := Aside0.mk (below_step HB.out hb)
        clear hb HO HB y0 y1 f0 f1 x0
        go_wp2_with fail
        refine (table_Runs_2.calls a1 v (a1 == v) _ rfl).mono ?_
        rintro e w3 ⟨rfl, hb0⟩
        have HO3 := Aside0.mk (Kd.R_below HO2.out hb0.below)
        have HB3 := Aside0.mk (below_step HB2.out hb0.below)
        clear hb0 HO2 HB2
        by_cases hv : a1 = v
        · have hv1 : (a1 == v) = true := beq_iff_eq.mpr hv
          rw [if_pos hv] at HM
          clear hv
          obtain ⟨y0, y1, f0, f1⟩ := run_cells HO3.out HML.out
          rw [HA0.out] at y0
          rw [HA1.out] at y1
          go_wp2_with fail
          refine (table_Runs_3.calls a0 a1 (wrap64 (a0 + 1)) a1 _ rfl).mono ?_
          rintro e w4 ⟨rfl, hb⟩
          have HO4 := Aside0.mk (Kd.R_below HO3.out hb)
          have HB4 := Aside0.mk (below_step HB3.out hb)
          clear hb HO3 HB3 y0 y1 f0 f1
          obtain ⟨y0, y1, f0, f1⟩ := run_cells HO4.out HML.out
          rw [HA0.out] at y0
          rw [HA1.out] at y1
          have HP := Aside0.mk (run_put HO4.out HML.out ⟨wrap64 (a0 + 1), a1⟩)
          obtain ⟨al, hal⟩ : ∃ z, acc.set m (⟨wrap64 (a0 + 1), a1⟩ : S83) = z := ⟨_, rfl⟩
          have hll : al.length = acc.length := by rw [← hal]; simp
          rw [hal] at HP
          rw [hal] at HM
          have HLL := Aside0.mk hll
          have HGB := Aside0.mk (Kd.R_base HO4.out g (by simp [Value.ownBlock]))
          clear hal hll
          go_wp2_with fail
          go_roundg (l0.length - (i + 1) + 1)
          case measure => have := HQ.out; have := HI1.out; omega
          case rel => exact ⟨i + 1, by first | rfl | rw [e8], ⟨rfl⟩, ⟨HI1.out⟩, ⟨by rw [HNX.out, HM.out]; exact HP.out.1⟩, ⟨pw_below_grown HB4.out (some g) HB4.out.size HP.out.2 (fun k hk => by injection hk with hk; rw [← hk]; exact HGB.out)⟩⟩
        · have hv1 : (a1 == v) = false := beq_eq_false_iff_ne.mpr hv
          rw [if_neg hv] at HM
          clear hv
          go_wp2_with fail
          refine (table_Runs_4.calls v 1 v _ rfl).mono ?_
          rintro e w4 ⟨rfl, hb⟩
          have HO4 := Aside0.mk (Kd.R_below HO3.out hb)
          have HB4 := Aside0.mk (below_step HB3.out hb)
          clear hb HO3 HB3
          obtain ⟨al, hal⟩ : ∃ z, acc ++ [(⟨1, v⟩ : S83)] = z := ⟨_, rfl⟩
          have HALN := Aside0.mk hal
          clear hal
          go_wp2_with (at_builtin; refine Kd.R_append k83 (w0 := w) (W := w4) w.heap.size rfl (.tmp 48) (.tmp 52) 22 83 (.agg #[.int .i64 0, .int .i64 0]) 16 rfl Try.underlying22 info83 rfl (by decide) (by decide) _ acc ⟨1, v⟩ [.int .i64 1, .int .i64 v] (fun _ => True) (fun _ => False) rfl rfl (k83_mkM _ _ _ ⟨1, v⟩) (fun _ h => h.elim) (fun k hk => trivial) HO4.out HB4.out HB4.out.size (by have := HAL.out; omega) ?_; intro v1 w5 hr hB hG hat; rw [HALN.out] at hr; obtain ⟨A1, c1, rfl⟩ := Kd.R_slice hr; have HRA := Aside0.mk hr; have HBA := Aside0.mk hB; clear hr hB hG hat)
          go_roundg (l0.length - (i + 1) + 1)
          case measure => have := HQ.out; have := HI1.out; omega
          case rel => exact ⟨i + 1, by first | rfl | rw [e8], ⟨rfl⟩, ⟨HI1.out⟩, ⟨by rw [HNX.out, HM.out, HALN.out]; exact HRA.out⟩, HBA⟩
      · have hp1 : decide (0 < acc.length) = false := decide_eq_false hp
        have hp2 : (0 < acc.length) = False := eq_false hp
        have HM : Aside0 (runStep acc v = acc ++ [⟨1, v⟩]) := ⟨by unfold runStep; rw [if_neg (fun h => hp h.1)]⟩
        clear hp hi
        go_wp2_with fail
        refine (table_Runs_4.calls v 1 v _ rfl).mono ?_
        rintro e w4 ⟨rfl, hb⟩
        have HO4 := Aside0.mk (Kd.R_below HO.out hb)
        have HB4 := Aside0.mk (below_step HB.out hb)
        clear hb HO HB
        obtain ⟨al, hal⟩ : ∃ z, acc ++ [(⟨1, v⟩ : S83)] = z := ⟨_, rfl⟩
        have HALN := Aside0.mk hal
        clear hal
        go_wp2_with (at_builtin; refine Kd.R_append k83 (w0 := w) (W := w4) w.heap.size rfl (.tmp 48) (.tmp 52) 22 83 (.agg #[.int .i64 0, .int .i64 0]) 16 rfl Try.underlying22 info83 rfl (by decide) (by decide) _ acc ⟨1, v⟩ [.int .i64 1, .int .i64 v] (fun _ => True) (fun _ => False) rfl rfl (k83_mkM _ _ _ ⟨1, v⟩) (fun _ h => h.elim) (fun k hk => trivial) HO4.out HB4.out HB4.out.size (by have := HAL.out; omega) ?_; intro v1 w5 hr hB hG hat; rw [HALN.out] at hr; obtain ⟨A1, c1, rfl⟩ := Kd.R_slice hr; have HRA := Aside0.mk hr; have HBA := Aside0.mk hB; clear hr hB hG hat)
        go_roundg (l0.length - (i + 1) + 1)
        case measure => have := HQ.out; have := HI1.out; omega
        case rel => exact ⟨i + 1, by first | rfl | rw [e8], ⟨rfl⟩, ⟨HI1.out⟩, ⟨by rw [HNX.out, HM.out, HALN.out]; exact HRA.out⟩, HBA⟩
    · have hi1 : decide ((i : Int) < (l0.length : Int)) = false := decide_eq_false (by omega)
      have hi2 : decide (i < l0.length) = false := decide_eq_false hi
      have hi3 : (i < l0.length) = False := eq_false hi
      have HZ : Aside0 (runsF l0 = acc) := ⟨by have h9 := HAC.out; rw [List.take_of_length_le (by omega)] at h9; exact h9⟩
      have HC := Aside0.mk (Kd.R_reads' HO.out)
      have hac : acc.length ≤ c := HC.out.2.1
      clear hi
      go_wp2_with fail
      go_ret
      exact ⟨_, _, by rw [HZ.out]; rfl, by rw [HZ.out]; exact Nat.le_refl _, by rw [HZ.out]; exact HC.out.2.2, HB.out⟩
set_option maxRecDepth 100000 in
set_option maxHeartbeats 1000000 in
theorem runs_calls {w : World} (A0 : Option Addr) (c0 : Nat) (l0 : List Int) (hr0 : Kd.C (Kd.int .i64) w A0 l0.length l0) (hl0 : l0.length ≤ 1000000) :
    Calls Try.prog 19 #[.slice A0 l0.length c0] w fun e w' => ∃ A c, e = .returned (.slice A (runsF l0).length c) ∧ (runsF l0).length ≤ c ∧ Kd.C k83 w' A (runsF l0).length (runsF l0) ∧ Below w.heap.size w w' := by
  have HR := Aside0.mk hr0
  have HL := Aside0.mk hl0
  clear hr0 hl0
  go_enter Try.func19, Try.ntmps19
  go_wp2_with fail
  refine (runsOf_calls A0 c0 l0 HR.out HL.out).mono ?_
  rintro e w2 ⟨A, c, rfl, h1, h2, hb⟩
  have H1 := Aside0.mk h1
  have H2 := Aside0.mk h2
  have HB := Aside0.mk hb
  clear h1 h2 hb
  go_wp2_with fail
  go_ret
  exact ⟨_, _, rfl, H1.out, H2.out, HB.out⟩
end Go.Proofs.Ytmbhafgnmdfjhaa.QTab
