/- A lemma file: table.Expand, walked. No condition. -/
import Derived.Test.YtmbhafgnmdfjhaaMT
import Derived.Deep.RegionHeld3
namespace Go.Proofs.Ytmbhafgnmdfjhaa.QTab
open Go.RowKit Go.Proofs.YtmbhafgnmdfjhaaW.PrintWords Go.Proofs.YtmbhafgnmdfjhaaW.PrintLast Go.Proofs.YtmbhafgnmdfjhaaW.PrintMore Go.Proofs.YtmbhafgnmdfjhaaV
set_option linter.unusedVariables false
set_option linter.unusedSimpArgs false
def dtsAt (first : Int) (times : List Int) (i : Nat) : Int := (times.take i).foldl (fun a d => wrap64 (a + d)) first
theorem dtsAt_next {first : Int} {times : List Int} {i : Nat} (h : i < times.length) : dtsAt first times (i + 1) = wrap64 (dtsAt first times i + rd times i) := by
  unfold dtsAt
  rw [List.take_add_one, List.foldl_append]
  simp [rd, List.getD_eq_getElem?_getD, List.getElem?_eq_getElem h]
def entOf (t : S27) (times offs durs : List Int) (i : Nat) (dts : Int) : S48 :=
  ⟨dts, if 0 < offs.length then wrap64 (dts + rd offs i) else dts, if 0 < durs.length then rd durs i else rd times i, if t.f5 = 0 then rd t.f6 i else t.f5, 0, 0, t.f4, if 0 < t.f10.length then (rd_L3 t.f10 i).map (fun d => wrap64 ((i : Int) - d)) else []⟩
def outs1 (t : S27) (times offs durs : List Int) (n i : Nat) : List S48 := (List.range i).map (fun j => entOf t times offs durs j (dtsAt t.f0 times j)) ++ List.replicate (n - i) z48
theorem outs1_len {t : S27} {times offs durs : List Int} {n i : Nat} (h : i ≤ n) : (outs1 t times offs durs n i).length = n := by
  simp [outs1]; omega
theorem outs1_get {t : S27} {times offs durs : List Int} {n i : Nat} (h : i < n) : (outs1 t times offs durs n i).getD i z48 = z48 := by
  rw [List.getD_eq_getElem?_getD, outs1, List.getElem?_append_right (by simp)]
  simp only [List.length_map, List.length_range, Nat.sub_self]
  rw [List.getElem?_replicate, if_pos (by omega)]
  rfl
theorem outs1_next {t : S27} {times offs durs : List Int} {n i : Nat} (h : i < n) : (outs1 t times offs durs n i).set i (entOf t times offs durs i (dtsAt t.f0 times i)) = outs1 t times offs durs n (i + 1) := by
  unfold outs1
  rw [List.range_succ, List.map_append, show n - i = (n - (i + 1)) + 1 by omega, List.replicate_succ, List.set_append_right _ _ (by simp)]
  simp
def setSync (out : List S48) (s : Int) : List S48 := out.set (s - 1).toNat { out.getD (s - 1).toNat z48 with f6 := true }
theorem setSync_len (out : List S48) (s : Int) : (setSync out s).length = out.length := by simp [setSync]
theorem syncs_len (l : List Int) : ∀ (out : List S48), (l.foldl setSync out).length = out.length := by
  induction l with
  | nil => intro _; rfl
  | cons a l ih => intro out; rw [List.foldl_cons, ih, setSync_len]
theorem syncs_next {l : List Int} {j : Nat} (h : j < l.length) (out : List S48) : (l.take (j + 1)).foldl setSync out = setSync ((l.take j).foldl setSync out) (rd l j) := by
  rw [List.take_add_one, List.foldl_append]
  simp [rd, List.getD_eq_getElem?_getD, List.getElem?_eq_getElem h]
structure PSt where
  out : List S48
  i : Nat
  place : Int
def placeOne (c : Int) (s : PSt) : PSt := ⟨s.out.set s.i { s.out.getD s.i z48 with f5 := c, f4 := s.place }, s.i + 1, wrap64 (s.place + (s.out.getD s.i z48).f3)⟩
def placeN (c : Int) : Nat → PSt → PSt
  | 0, s => s
  | m + 1, s => placeOne c (placeN c m s)
theorem placeN_i (c : Int) (s : PSt) : ∀ m, (placeN c m s).i = s.i + m := by
  intro m
  induction m with
  | zero => rfl
  | succ m ih => show (placeN c m s).i + 1 = _; rw [ih]; omega
theorem placeN_len (c : Int) (s : PSt) : ∀ m, (placeN c m s).out.length = s.out.length := by
  intro m
  induction m with
  | zero => rfl
  | succ m ih => show ((placeN c m s).out.set _ _).length = _; rw [List.length_set, ih]
def placeC (places : List Int) (ms : Nat → Int) (out : List S48) : Nat → PSt
  | 0 => ⟨out, 0, 0⟩
  | c + 1 => placeN (c : Int) (ms c).toNat ⟨(placeC places ms out c).out, (placeC places ms out c).i, rd places c⟩
def sumM (ms : Nat → Int) : Nat → Nat
  | 0 => 0
  | c + 1 => sumM ms c + (ms c).toNat
theorem placeC_i (places : List Int) (ms : Nat → Int) (out : List S48) : ∀ c, (placeC places ms out c).i = sumM ms c := by
  intro c
  induction c with
  | zero => rfl
  | succ c ih => rw [placeC, placeN_i]; show _ + _ = sumM ms c + _; rw [← ih]
theorem placeC_len (places : List Int) (ms : Nat → Int) (out : List S48) : ∀ c, (placeC places ms out c).out.length = out.length := by
  intro c
  induction c with
  | zero => rfl
  | succ c ih => rw [placeC, placeN_len]; exact ih
theorem sumM_mono (ms : Nat → Int) {a b : Nat} (h : a ≤ b) : sumM ms a ≤ sumM ms b := by
  induction b with
  | zero => have : a = 0 := by omega
            subst this; exact Nat.le_refl _
  | succ b ih =>
    by_cases hb : a = b + 1
    · subst hb; exact Nat.le_refl _
    · exact Nat.le_trans (ih (by omega)) (Nat.le_add_right _ _)
def outs2 (t : S27) (times offs durs : List Int) : List S48 := t.f3.foldl setSync (outs1 t times offs durs times.length times.length)
def outs3 (t : S27) (times offs durs : List Int) (ms : Nat → Int) : List S48 := (placeC t.f8 ms (outs2 t times offs durs) t.f8.length).out
structure ExpOk (k : Nat) (t : S27) (times offs durs : List Int) (ms : Nat → Int) : Prop where
  n : times.length ≤ 65536
  o : 0 < offs.length → times.length ≤ offs.length
  d : 0 < durs.length → times.length ≤ durs.length
  s : t.f5 = 0 → times.length ≤ t.f6.length
  p : 0 < t.f10.length → times.length ≤ t.f10.length
  y : ∀ j : Nat, j < t.f3.length → 1 ≤ rd t.f3 j ∧ rd t.f3 j ≤ times.length
  c : ∀ c : Nat, c < t.f8.length → table_inChunk.f k t.f0 t.f1 t.f2 t.f3 t.f4 t.f5 t.f6 t.f7 t.f8 t.f9 t.f10 c = some (ms c)
  m : sumM ms t.f8.length ≤ times.length
  l : ∀ i : Nat, i < t.f10.length → (rd_L3 t.f10 i).length ≤ 65536
set_option maxRecDepth 100000 in
set_option maxHeartbeats 2000000 in
theorem expand_calls {w : World} (k : Nat) (t : S27) (d : D27) (hr : R27 w t d) (r : Int)
    (hC : ∀ w1, R27 w1 t d → Calls Try.prog 12 #[.agg (cells27 t d)] w1 fun e w' => e = .returned (.int .i64 r) ∧ Below w1.heap.size w1 w')
    (times offs durs : List Int) (ms : Nat → Int) (h1 : r = 0 → table_values.f k t.f1 = some times) (h2 : r = 0 → table_values.f k t.f2 = some offs) (h3 : r = 0 → table_values.f k t.f9 = some durs) (hn : r = 0 → ExpOk k t times offs durs ms) :
    Calls Try.prog 25 #[.agg (cells27 t d)] w fun e w' => ∃ v, e = .returned (.tuple #[v, .int .i64 r]) ∧ Kd.S k48 48 w' w.heap.size (fun _ => True) v (if r = 0 then outs3 t times offs durs ms else []) ∧ Below w.heap.size w w' := by
  have hu := Try.underlying27
  have HR := Aside0.mk hr
  have HC := Aside0.mk hC
  clear hr hC
  unfold cells27
  go_enter Try.func25, Try.ntmps25
  obtain ⟨w1, hw1⟩ : ∃ wz, w.alloc (.cells (cells27 t d) 27) = wz := ⟨_, rfl⟩
  obtain ⟨g, hg⟩ : ∃ rz, w.heap.size = rz := ⟨_, rfl⟩
  have B1 : Aside0 (Below w.heap.size w w1) := ⟨by rw [← hw1]; exact below_alloc (Below.refl _ _) _⟩
  have K1 : Aside0 (Box27 w1 g t d) := ⟨by rw [← hw1, ← hg]; exact blk_new w _⟩
  unfold cells27 at hw1
  obtain ⟨q0, q1, q2, q3, q4, q5, q6, q7, q8, q9, q10⟩ := K1.out.cells
  go_wp2_with fail
  have HC2 := HC.out w1 (HR.out.below B1.out)
  unfold cells27 at HC2
  refine HC2.mono ?_
  rintro e w2 ⟨rfl, hb⟩
  have GE : Aside0 (w.heap.size ≤ g) := ⟨by omega⟩
  have B2 := Aside0.mk (below_step B1.out hb)
  have K2 := Aside0.mk (K1.out.below hb)
  clear hb q0 q1 q2 q3 q4 q5 q6 q7 q8 q9 q10 HC2 hw1 hg HC
  by_cases hz : r = 0
  · subst hz
    obtain ⟨q0, q1, q2, q3, q4, q5, q6, q7, q8, q9, q10⟩ := K2.out.cells
    have F1 := Aside0.mk (h1 rfl)
    have F2 := Aside0.mk (h2 rfl)
    have F3 := Aside0.mk (h3 rfl)
    have HN := Aside0.mk (hn rfl)
    clear h1 h2 h3 K1 B1 hn
    go_wp2_with fail
    clear q0 q1 q2 q3 q4 q5 q6 q7 q8 q9 q10
    have KEEP := Aside0.mk (show St4 w w2.drew g t d from ⟨below_drew B2.out, K2.out.below (below_drew (Below.refl _ _)), (HR.out.below (below_drew B2.out))⟩).all
    go_region_held3 (fun w' => w'.cell? ⟨g, 0, none⟩ = some (.int .i64 t.f0) ∧ w'.cell? ⟨g, 1, none⟩ = some (.slice d.A1 t.f1.length d.c1) ∧ w'.cell? ⟨g, 2, none⟩ = some (.slice d.A2 t.f2.length d.c2) ∧ w'.cell? ⟨g, 3, none⟩ = some (.slice d.A3 t.f3.length d.c3) ∧ w'.cell? ⟨g, 4, none⟩ = some (.bool t.f4) ∧ w'.cell? ⟨g, 5, none⟩ = some (.int .i64 t.f5) ∧ w'.cell? ⟨g, 6, none⟩ = some (.slice d.A6 t.f6.length d.c6) ∧ w'.cell? ⟨g, 7, none⟩ = some (.slice d.A7 t.f7.length d.c7) ∧ w'.cell? ⟨g, 8, none⟩ = some (.slice d.A8 t.f8.length d.c8) ∧ w'.cell? ⟨g, 9, none⟩ = some (.slice d.A9 t.f9.length d.c9) ∧ w'.cell? ⟨g, 10, none⟩ = some (.slice d.A10 t.f10.length d.c10) ∧ St4 w w' g t d) (first | exact KEEP.out | go_keep) (first
      | (go_at_call 46; with_reducible refine (table_values.calls k d.A1 d.c1 t.f1 times _ (show _ ∧ _ ∧ _ ∧ _ ∧ _ ∧ _ ∧ _ ∧ _ ∧ _ ∧ _ ∧ _ ∧ St4 w _ g t d from by assumption).2.2.2.2.2.2.2.2.2.2.2.r.r1 (show _ ∧ _ ∧ _ ∧ _ ∧ _ ∧ _ ∧ _ ∧ _ ∧ _ ∧ _ ∧ _ ∧ St4 w _ g t d from by assumption).2.2.2.2.2.2.2.2.2.2.2.r.c1 F1.out).mono ?_; rintro e wq ⟨v, rfl, sv, hb⟩; have KEEP := Aside0.mk (((show _ ∧ _ ∧ _ ∧ _ ∧ _ ∧ _ ∧ _ ∧ _ ∧ _ ∧ _ ∧ _ ∧ St4 w _ g t d from by assumption).2.2.2.2.2.2.2.2.2.2.2.step hb)).all; obtain ⟨Aa, ca, rfl⟩ := Kd.R_slice sv; have QA := Aside0.mk (Kd.R_reads' sv); clear sv hb)
      | (go_at_call 46; with_reducible refine (table_values.calls k d.A2 d.c2 t.f2 offs _ (show _ ∧ _ ∧ _ ∧ _ ∧ _ ∧ _ ∧ _ ∧ _ ∧ _ ∧ _ ∧ _ ∧ St4 w _ g t d from by assumption).2.2.2.2.2.2.2.2.2.2.2.r.r2 (show _ ∧ _ ∧ _ ∧ _ ∧ _ ∧ _ ∧ _ ∧ _ ∧ _ ∧ _ ∧ _ ∧ St4 w _ g t d from by assumption).2.2.2.2.2.2.2.2.2.2.2.r.c2 F2.out).mono ?_; rintro e wq ⟨v, rfl, sv, hb⟩; have KEEP := Aside0.mk (((show _ ∧ _ ∧ _ ∧ _ ∧ _ ∧ _ ∧ _ ∧ _ ∧ _ ∧ _ ∧ _ ∧ St4 w _ g t d from by assumption).2.2.2.2.2.2.2.2.2.2.2.step hb)).all; obtain ⟨Ab, cb, rfl⟩ := Kd.R_slice sv; have QB := Aside0.mk (Kd.R_reads' sv); have QA2 := Aside0.mk (Kd.C_below QA.out.2.2 hb); clear sv hb)
      | (go_at_call 46; with_reducible refine (table_values.calls k d.A9 d.c9 t.f9 durs _ (show _ ∧ _ ∧ _ ∧ _ ∧ _ ∧ _ ∧ _ ∧ _ ∧ _ ∧ _ ∧ _ ∧ St4 w _ g t d from by assumption).2.2.2.2.2.2.2.2.2.2.2.r.r9 (show _ ∧ _ ∧ _ ∧ _ ∧ _ ∧ _ ∧ _ ∧ _ ∧ _ ∧ _ ∧ _ ∧ St4 w _ g t d from by assumption).2.2.2.2.2.2.2.2.2.2.2.r.c9 F3.out).mono ?_; rintro e wq ⟨v, rfl, sv, hb⟩; have KEEP := Aside0.mk (((show _ ∧ _ ∧ _ ∧ _ ∧ _ ∧ _ ∧ _ ∧ _ ∧ _ ∧ _ ∧ _ ∧ St4 w _ g t d from by assumption).2.2.2.2.2.2.2.2.2.2.2.step hb)).all; obtain ⟨Ac, cc, rfl⟩ := Kd.R_slice sv; have QC := Aside0.mk (Kd.R_reads' sv); have QB2 := Aside0.mk (Kd.C_below QB.out.2.2 hb); have QA3 := Aside0.mk (Kd.C_below QA2.out hb); clear sv hb))
    rename_i hh
    have S4 := Aside0.mk hh.2.2.2.2.2.2.2.2.2.2.2
    clear KEEP hh
    have Q3 := Aside0.mk QC.out.2.2
    clear QC QA2 QB QA
    generalize wq = w5 at S4 Q3 QA3 QB2 ⊢
    obtain ⟨q0, q1, q2, q3, q4, q5, q6, q7, q8, q9, q10⟩ := S4.out.k.cells
    go_wp2_with (first
      | ((with_reducible refine gate_dst (N := 35) rfl ?_); refine Kd.S_make k48 (w0 := w5) w5.heap.size 48 rfl (N := 35) rfl 40 _ _ rfl (times.length : Int) rfl rfl Try.underlying40 (.agg #[(.int .i64 0), (.int .i64 0), (.int .i64 0), (.int .i64 0), (.int .i64 0), (.int .i64 0), (.bool false), (.slice none 0 0)]) 80 info48 rfl (by decide) (by omega) z48 (ok := fun _ => True) (okp := fun _ => True) (k48_mkM _ _ _ z48 (Kd.R_nil _ _ _ _ _)) (fun _ hk => hk) trivial (by omega) (by have := HN.out.n; omega) (Below.refl _ _) (Nat.le_refl _) ?_; intro v6 w6 ho hb hg hnew; rw [Int.toNat_natCast] at ho; have hsl := Kd.S_slice ho; rw [List.length_replicate] at hsl; obtain ⟨Ao, co, rfl⟩ := hsl; have HO := Aside0.mk ho; have HB := Aside0.mk hb; clear ho hb hg hnew; clear q0 q1 q2 q3 q4 q5 q6 q7 q8 q9 q10; obtain ⟨q0, q1, q2, q3, q4, q5, q6, q7, q8, q9, q10⟩ := (S4.out.k.below HB.out).cells))
    clear q0 q1 q2 q3 q4 q5 q6 q7 q8 q9 q10
    go_loopg [9, 40] (times.length + 1) (fun kq v9 v40 w' => ∃ (i : Nat), v40 = .int .i64 (i : Int) ∧ v9 = .int .i64 (dtsAt t.f0 times i) ∧ Aside0 (kq = times.length - i + 1) ∧ Aside0 (i ≤ times.length) ∧ Aside0 (Kd.S k48 48 w' w5.heap.size (fun _ => True) (.slice Ao times.length co) (outs1 t times offs durs times.length i)) ∧ Aside0 (Below w5.heap.size w5 w'))
    case atStart => exact ⟨0, rfl, rfl, ⟨rfl⟩, ⟨Nat.zero_le _⟩, by simpa [outs1] using HO, HB⟩
    case round =>
      clear HO HB
      obtain ⟨i, rfl, rfl, HQ, HI, HO, HB⟩ := hrel
      obtain ⟨dts, hdts⟩ : ∃ z, dtsAt t.f0 times i = z := ⟨_, rfl⟩
      have HD := Aside0.mk hdts
      rw [hdts]
      clear hdts
      by_cases hi : i < times.length
      · have hi1 : decide ((i : Int) < (times.length : Int)) = true := decide_eq_true (by omega)
        have hi2 : decide (i < times.length) = true := decide_eq_true hi
        have HI1 := Aside0.mk hi
        have hi3 := eq_true hi
        obtain ⟨gg, cap, eg, gb, gl, cl, hg⟩ := Kd.S_form HO.out (by rw [outs1_len HI.out]; omega)
        injection eg with eg1 eg2 eg3
        subst eg1 eg3
        clear eg2
        clear gb gl hg
        obtain ⟨ad, e0, x5⟩ := Kd.at_int QA3.out (i : Int) (by omega) (by omega)
        cases e0
        rw [Int.toNat_natCast] at x5
        have NT := Aside0.mk (World.block_lt_of_cell? w5 _ x5)
        have X5 := Aside0.mk x5
        obtain ⟨vv, oki, hh⟩ := Hole.lend HO.out hi
        rw [outs1_get hi] at hh
        have HH : Aside0 (Put w5 wr gg times.length co (outs1 t times offs durs times.length i) i z48 vv oki) := ⟨⟨hh, HB.out⟩⟩
        have GB : Aside0 (w5.heap.size ≤ gg) := ⟨hh.gb⟩
        have NG : Aside0 (g ≠ gg) := ⟨by have := S4.out.k.lt; have := hh.gb; omega⟩
        clear hi hh x5 HO
        go_upto_region 11 with fail
        go_cut [] from 46 to 65 (fun w' => Aside0 (Put w5 w' gg times.length co (outs1 t times offs durs times.length i) i ⟨dts, dts, rd times i, t.f5, 0, 0, false, []⟩ vv oki))
        case first =>
          have KEEP : Aside0 (wr.drew.cell? ⟨g, 5, none⟩ = some (.int .i64 t.f5) ∧ wr.drew.cell? (ad.add i) = some (.int .i64 (rd times i))) := ⟨⟨(S4.out.k.below HB.out).cells.2.2.2.2.2.1, (HB.out.cell NT.out).trans X5.out⟩⟩
          have c0 : wr.cell? ⟨gg, i * 8, none⟩ = some (.int .i64 0) := HH.out.h.cell 0 _ rfl
          have c1 : wr.cell? ⟨gg, i * 8 + 1, none⟩ = some (.int .i64 0) := HH.out.h.cell 1 _ rfl
          have c2 : wr.cell? ⟨gg, i * 8 + 2, none⟩ = some (.int .i64 0) := HH.out.h.cell 2 _ rfl
          have c3 : wr.cell? ⟨gg, i * 8 + 3, none⟩ = some (.int .i64 0) := HH.out.h.cell 3 _ rfl
          have f0 : wr.frozen? ⟨gg, i * 8, none⟩ = false := HH.out.h.frozen 0
          have f1 : wr.frozen? ⟨gg, i * 8 + 1, none⟩ = false := HH.out.h.frozen 1
          have f2 : wr.frozen? ⟨gg, i * 8 + 2, none⟩ = false := HH.out.h.frozen 2
          have f3 : wr.frozen? ⟨gg, i * 8 + 3, none⟩ = false := HH.out.h.frozen 3
          go_region_held3 (fun w' => w'.cell? ⟨g, 5, none⟩ = some (.int .i64 t.f5) ∧ w'.cell? (ad.add i) = some (.int .i64 (rd times i))) (first | exact KEEP.out | (exact ⟨cell_far (show World.cell? _ ⟨g, 5, none⟩ = some (.int .i64 t.f5) ∧ _ from by assumption).1 NG.out, cell_far (show World.cell? _ ⟨g, 5, none⟩ = some (.int .i64 t.f5) ∧ _ from by assumption).2 (by have h1 := NT.out; have h2 := GB.out; show (ad.add i).block ≠ gg; omega)⟩)) (fail)
          go_wp2_with fail
          go_meet
          case rel => exact ⟨((((HH.out.put 0 (.int .i64 dts) rfl (by omega) ⟨dts, 0, 0, 0, 0, 0, false, []⟩ rfl rfl).put 1 (.int .i64 dts) rfl (by omega) ⟨dts, dts, 0, 0, 0, 0, false, []⟩ rfl rfl).put 2 (.int .i64 (rd times i)) rfl (by omega) ⟨dts, dts, rd times i, 0, 0, 0, false, []⟩ rfl rfl).put 3 (.int .i64 t.f5) rfl (by omega) ⟨dts, dts, rd times i, t.f5, 0, 0, false, []⟩ rfl rfl).drew⟩
        case rest =>
          have P7 := hcut
          clear hcut HH HB
          generalize wc = w7 at P7 ⊢
          go_upto_if 68 with fail
          go_cut [] from 66 to 79 (fun w' => Aside0 (Put w5 w' gg times.length co (outs1 t times offs durs times.length i) i ⟨dts, (if 0 < offs.length then wrap64 (dts + rd offs i) else dts), rd times i, t.f5, 0, 0, false, []⟩ vv oki))
          case first =>
            by_cases ho : 0 < offs.length
            · have ho1 : decide (0 < offs.length) = true := decide_eq_true ho
              have ho2 : (0 < offs.length) = True := eq_true ho
              have hio : (i : Int) < (offs.length : Int) := by have := HN.out.o ho; have := HI1.out; omega
              obtain ⟨ad2, e2, y5⟩ := Kd.at_int QB2.out (i : Int) (by omega) hio
              cases e2
              rw [Int.toNat_natCast] at y5
              have y7 := (P7.out.b.cell (World.block_lt_of_cell? w5 _ y5)).trans y5
              have c1 : w7.cell? ⟨gg, i * 8 + 1, none⟩ = some (.int .i64 dts) := P7.out.h.cell 1 _ rfl
              have f1 : w7.frozen? ⟨gg, i * 8 + 1, none⟩ = false := P7.out.h.frozen 1
              have hio1 : (i < offs.length) = True := eq_true (by omega)
              have HOF := Aside0.mk ho
              clear y5 hio
              go_wp2_with fail
              go_still_tail 9, (by kernel_rfl)
              change wpList _ _ _ _ _ w7.drew
              go_wp2_with fail
              go_meet
              case rel => exact ⟨by rw [if_pos HOF.out]; exact (P7.out.drew.put 1 (.int .i64 (wrap64 (dts + rd offs i))) rfl (by omega) ⟨dts, wrap64 (dts + rd offs i), rd times i, t.f5, 0, 0, false, []⟩ rfl rfl)⟩
            · have ho1 : decide (0 < offs.length) = false := decide_eq_false ho
              have ho2 : (0 < offs.length) = False := eq_false ho
              have HOF := Aside0.mk ho
              go_wp2_with fail
              go_meet
              case rel => exact ⟨by rw [if_neg HOF.out]; exact P7.out⟩
          case rest =>
          have P8 := hcut
          clear hcut P7
          generalize wc = w8 at P8 ⊢
          go_upto_if 82 with fail
          go_cut [] from 80 to 89 (fun w' => Aside0 (Put w5 w' gg times.length co (outs1 t times offs durs times.length i) i ⟨dts, (if 0 < offs.length then wrap64 (dts + rd offs i) else dts), (if 0 < durs.length then rd durs i else rd times i), t.f5, 0, 0, false, []⟩ vv oki))
          case first =>
            by_cases ho : 0 < durs.length
            · have ho1 : decide (0 < durs.length) = true := decide_eq_true ho
              have ho2 : (0 < durs.length) = True := eq_true ho
              have hio : (i : Int) < (durs.length : Int) := by have := HN.out.d ho; have := HI1.out; omega
              obtain ⟨ad2, e2, y5⟩ := Kd.at_int Q3.out (i : Int) (by omega) hio
              cases e2
              rw [Int.toNat_natCast] at y5
              have y7 := (P8.out.b.cell (World.block_lt_of_cell? w5 _ y5)).trans y5
              have c1 : w8.cell? ⟨gg, i * 8 + 2, none⟩ = some (.int .i64 (rd times i)) := P8.out.h.cell 2 _ rfl
              have f1 : w8.frozen? ⟨gg, i * 8 + 2, none⟩ = false := P8.out.h.frozen 2
              have hio1 : (i < durs.length) = True := eq_true (by omega)
              have HOF := Aside0.mk ho
              clear y5 hio
              go_wp2_with fail
              go_meet
              case rel => exact ⟨by rw [if_pos HOF.out]; exact P8.out.put 2 (.int .i64 (rd durs i)) rfl (by omega) ⟨dts, (if 0 < offs.length then wrap64 (dts + rd offs i) else dts), rd durs i, t.f5, 0, 0, false, []⟩ rfl rfl⟩
            · have ho1 : decide (0 < durs.length) = false := decide_eq_false ho
              have ho2 : (0 < durs.length) = False := eq_false ho
              have HOF := Aside0.mk ho
              go_wp2_with fail
              go_meet
              case rel => exact ⟨by rw [if_neg HOF.out]; exact P8.out⟩
          case rest =>
          have P9 := hcut
          clear hcut P8
          generalize wc = w9 at P9 ⊢
          obtain ⟨q0, q1, q2, q3, q4, q5, q6, q7, q8, q9, q10⟩ := (S4.out.k.below P9.out.b).cells
          go_upto_if 92 with fail
          go_cut [] from 90 to 100 (fun w' => Aside0 (Put w5 w' gg times.length co (outs1 t times offs durs times.length i) i ⟨dts, (if 0 < offs.length then wrap64 (dts + rd offs i) else dts), (if 0 < durs.length then rd durs i else rd times i), (if t.f5 = 0 then rd t.f6 i else t.f5), 0, 0, false, []⟩ vv oki))
          case first =>
            by_cases ho : t.f5 = 0
            · have ho1 : (t.f5 == 0) = true := beq_iff_eq.mpr ho
              have ho2 : (t.f5 = 0) = True := eq_true ho
              have hio : (i : Int) < (t.f6.length : Int) := by have := HN.out.s ho; have := HI1.out; omega
              obtain ⟨ad2, e2, y5⟩ := Kd.at_int S4.out.r.r6 (i : Int) (by omega) hio
              rw [Int.toNat_natCast] at y5
              rw [e2] at q6
              have y7 := (P9.out.b.cell (World.block_lt_of_cell? w5 _ y5)).trans y5
              have c1 : w9.cell? ⟨gg, i * 8 + 3, none⟩ = some (.int .i64 t.f5) := P9.out.h.cell 3 _ rfl
              have f1 : w9.frozen? ⟨gg, i * 8 + 3, none⟩ = false := P9.out.h.frozen 3
              have hio1 : (i < t.f6.length) = True := eq_true (by omega)
              have HOF := Aside0.mk ho
              clear y5 hio e2
              go_wp2_with fail
              go_meet
              case rel => exact ⟨by rw [if_pos HOF.out]; exact P9.out.put 3 (.int .i64 (rd t.f6 i)) rfl (by omega) ⟨dts, (if 0 < offs.length then wrap64 (dts + rd offs i) else dts), (if 0 < durs.length then rd durs i else rd times i), rd t.f6 i, 0, 0, false, []⟩ rfl rfl⟩
            · have ho1 : (t.f5 == 0) = false := beq_eq_false_iff_ne.mpr ho
              have ho2 : (t.f5 = 0) = False := eq_false ho
              have HOF := Aside0.mk ho
              go_wp2_with fail
              go_meet
              case rel => exact ⟨by rw [if_neg HOF.out]; exact P9.out⟩
          case rest =>
          have P10 := hcut
          clear hcut P9
          generalize wc = w10 at P10 ⊢
          clear q0 q1 q2 q3 q4 q5 q6 q7 q8 q9 q10
          obtain ⟨q0, q1, q2, q3, q4, q5, q6, q7, q8, q9, q10⟩ := (S4.out.k.below P10.out.b).cells
          go_upto_if 104 with fail
          clear q0 q1 q2 q3 q4 q5 q6 q7 q8 q9
          go_cut [] from 104 to 127 (fun w' => Aside0 (∃ v' oki', Put w5 w' gg times.length co (outs1 t times offs durs times.length i) i ⟨dts, (if 0 < offs.length then wrap64 (dts + rd offs i) else dts), (if 0 < durs.length then rd durs i else rd times i), (if t.f5 = 0 then rd t.f6 i else t.f5), 0, 0, false, (if 0 < t.f10.length then (rd_L3 t.f10 i).map (fun d => wrap64 ((i : Int) - d)) else [])⟩ v' oki'))
          case first =>
            by_cases ho : 0 < t.f10.length
            · have ho1 : decide (0 < t.f10.length) = true := decide_eq_true ho
              have ho2 : (0 < t.f10.length) = True := eq_true ho
              have hio : (i : Int) < (t.f10.length : Int) := by have := HN.out.p ho; have := HI1.out; omega
              obtain ⟨adp, Ap, cp, e2, y5, hcp, hRp⟩ := at_L3 S4.out.r.r10 (i : Int) (by omega) hio
              rw [Int.toNat_natCast] at y5
              rw [e2] at q10
              have y7 := (P10.out.b.cell (World.block_lt_of_cell? w5 _ y5)).trans y5
              have hio1 : (i < t.f10.length) = True := eq_true (by omega)
              have HOF := Aside0.mk ho
              have HLL := Aside0.mk (HN.out.l i (by omega))
              obtain ⟨dl, hdl⟩ : ∃ z, rd_L3 t.f10 i = z := ⟨_, rfl⟩
              rw [hdl] at y7 hRp HLL
              have HDL := Aside0.mk hdl
              have HRP := Aside0.mk hRp
              clear y5 hio e2 hdl hRp hcp
              go_wp2_with fail
              generalize Value.bool (decide (0 < t.f10.length)) = v104
              go_loopg [111] (dl.length + 1) (fun kq v111 w' => ∃ (j : Nat), v111 = .int .i64 (j : Int) ∧ Aside0 (kq = dl.length - j + 1) ∧ Aside0 (j ≤ dl.length) ∧ Aside0 (∃ vj okj, Put w5 w' gg times.length co (outs1 t times offs durs times.length i) i ⟨dts, (if 0 < offs.length then wrap64 (dts + rd offs i) else dts), (if 0 < durs.length then rd durs i else rd times i), (if t.f5 = 0 then rd t.f6 i else t.f5), 0, 0, false, ((dl.take j).map (fun d => wrap64 ((i : Int) - d)))⟩ vj okj))
              case atStart => exact ⟨0, rfl, ⟨rfl⟩, ⟨Nat.zero_le _⟩, ⟨_, _, P10.out⟩⟩
              case round =>
                clear P10
                obtain ⟨j, rfl, JQ, JI, JP⟩ := hrel
                obtain ⟨vj, okj, JP⟩ := JP.out
                by_cases hj : j < dl.length
                · have hj1 : decide ((j : Int) < (dl.length : Int)) = true := decide_eq_true (by omega)
                  have hj2 : decide (j < dl.length) = true := decide_eq_true hj
                  have hj3 : (j < dl.length) = True := eq_true hj
                  have HJ1 := Aside0.mk hj
                  have e8 : wrap64 ((j : Int) + 1) = ((j + 1 : Nat) : Int) := by have := HLL.out; unfold wrap64; omega
                  obtain ⟨adj, ej, xj⟩ := Kd.at_int HRP.out (j : Int) (by omega) (by omega)
                  cases ej
                  rw [Int.toNat_natCast] at xj
                  have xj2 := (JP.b.cell (World.block_lt_of_cell? w5 _ xj)).trans xj
                  obtain ⟨dv, hdv⟩ : ∃ z, rd dl j = z := ⟨_, rfl⟩
                  rw [hdv] at xj2
                  obtain ⟨pl, hpl⟩ : ∃ z, (dl.take j).map (fun d => wrap64 ((i : Int) - d)) = z := ⟨_, rfl⟩
                  obtain ⟨pl2, hpl2⟩ : ∃ z, pl ++ [wrap64 ((i : Int) - dv)] = z := ⟨_, rfl⟩
                  have HNX : Aside0 ((dl.take (j + 1)).map (fun d => wrap64 ((i : Int) - d)) = pl2) := ⟨by
                    rw [List.take_add_one, List.map_append, hpl, ← hpl2, ← hdv]
                    simp [rd, List.getD_eq_getElem?_getD, List.getElem?_eq_getElem hj]⟩
                  have HPN : Aside0 (pl.length ≤ 65536) := ⟨by rw [← hpl]; have := HLL.out; simp; omega⟩
                  rw [hpl] at JP
                  have HPL2 := Aside0.mk hpl2
                  clear hpl hpl2 hdv xj hj
                  obtain ⟨Av, cv, hv⟩ := Kd.R_slice JP.h.r
                  subst hv
                  have JW := Aside0.mk JP.widen
                  have c7 : wr.cell? ⟨gg, i * 8 + 7, none⟩ = some (.slice Av pl.length cv) := JP.h.cell 7 _ rfl
                  have f7 : wr.frozen? ⟨gg, i * 8 + 7, none⟩ = false := JP.h.frozen 7
                  clear JP
                  go_wp2_with (at_builtin; refine Kd.R_append (Kd.int .i64) (w0 := w5) (W := wr) w5.heap.size rfl (.tmp 119) (.tmp 123) 23 3 (.int .i64 0) 8 rfl Try.underlying23 info3 rfl (by decide) (by decide) _ pl (wrap64 ((i : Int) - dv)) [.int .i64 (wrap64 ((i : Int) - dv))] (fun k => okj k ∨ True ∧ wr.heap.size ≤ k) (fun _ => False) rfl rfl (show Kd.M (Kd.int .i64) _ _ _ _ _ from rfl) (fun _ h => h.elim) (fun k hk => Or.inr ⟨trivial, hk⟩) JW.out.h.r JW.out.b JW.out.b.size (by have := HPN.out; omega) ?_; intro v1 w1' hr hB hG hat; rw [HPL2.out] at hr; obtain ⟨Av1, cv1, rfl⟩ := Kd.R_slice hr; obtain ⟨c7', f7'⟩ := JW.out.after hG; have HRA := Aside0.mk hr; have HGA := Aside0.mk hG; clear hr hB hG hat)
                  go_roundg (dl.length - (j + 1) + 1)
                  case measure => have := JQ.out; have := HJ1.out; omega
                  case rel => exact ⟨j + 1, by first | rfl | (simp; done) | rw [e8], ⟨rfl⟩, ⟨HJ1.out⟩, ⟨_, _, by rw [HNX.out]; exact JW.out.appended HGA.out HRA.out⟩⟩
                · have hj1 : decide ((j : Int) < (dl.length : Int)) = false := decide_eq_false (by omega)
                  have hj2 : decide (j < dl.length) = false := decide_eq_false hj
                  have hj3 : (j < dl.length) = False := eq_false hj
                  have HTK : Aside0 (dl.take j = dl) := ⟨List.take_of_length_le (by omega)⟩
                  have HP := Aside0.mk JP
                  clear JP hj
                  go_wp2_with fail
                  go_meet
                  case rel => exact ⟨_, _, by rw [if_pos HOF.out, HDL.out]; have h9 := HP.out; rw [HTK.out] at h9; exact h9⟩
            · have ho1 : decide (0 < t.f10.length) = false := decide_eq_false ho
              have ho2 : (0 < t.f10.length) = False := eq_false ho
              have HOF := Aside0.mk ho
              go_wp2_with fail
              go_meet
              case rel => exact ⟨_, _, by rw [if_neg HOF.out]; exact P10.out⟩
          case rest =>
          obtain ⟨vq, okq, hcut⟩ := hcut.out
          have P11 := Aside0.mk hcut
          clear hcut P10
          generalize wc = w11 at P11 ⊢
          clear q10
          obtain ⟨q0, q1, q2, q3, q4, q5, q6, q7, q8, q9, q10⟩ := (S4.out.k.below P11.out.b).cells
          have c6 : w11.cell? ⟨gg, i * 8 + 6, none⟩ = some (.bool false) := P11.out.h.cell 6 _ rfl
          have f6 : w11.frozen? ⟨gg, i * 8 + 6, none⟩ = false := P11.out.h.frozen 6
          have x11 := (P11.out.b.cell NT.out).trans X5.out
          have x12 := cell_far (p := ⟨gg, i * 8 + 6, none⟩) (u := .bool t.f4) x11 (by have h1 := NT.out; have h2 := GB.out; show (ad.add i).block ≠ gg; omega)
          have P12 := Aside0.mk (P11.out.put 6 (.bool t.f4) rfl (by omega) ⟨dts, (if 0 < offs.length then wrap64 (dts + rd offs i) else dts), (if 0 < durs.length then rd durs i else rd times i), (if t.f5 = 0 then rd t.f6 i else t.f5), 0, 0, t.f4, (if 0 < t.f10.length then (rd_L3 t.f10 i).map (fun d => wrap64 ((i : Int) - d)) else [])⟩ rfl rfl)
          have e8 : wrap64 ((i : Int) + 1) = ((i + 1 : Nat) : Int) := by have := HN.out.n; have := HI1.out; unfold wrap64; omega
          go_wp2_with fail
          go_roundg (times.length - (i + 1) + 1)
          case measure => have := HQ.out; have := HI1.out; omega
          case rel => exact ⟨i + 1, by first | rfl | (simp; done) | rw [e8], by rw [dtsAt_next HI1.out, HD.out], ⟨rfl⟩, ⟨HI1.out⟩, ⟨by rw [← outs1_next HI1.out, HD.out]; exact P12.out.h.back⟩, ⟨P12.out.b⟩⟩
      · have hi1 : decide ((i : Int) < (times.length : Int)) = false := decide_eq_false (by omega)
        have hi2 : decide (i < times.length) = false := decide_eq_false hi
        have hi3 : (i < times.length) = False := eq_false hi
        have hin : i = times.length := by have := HI.out; omega
        have HO1 : Aside0 (Kd.S k48 48 wr w5.heap.size (fun _ => True) (.slice Ao times.length co) (outs1 t times offs durs times.length times.length)) := ⟨by rw [hin] at HO; exact HO.out⟩
        clear HO hin hi HD
        obtain ⟨q0, q1, q2, q3, q4, q5, q6, q7, q8, q9, q10⟩ := (S4.out.k.below HB.out).cells
        go_wp2_with fail
        clear q0 q1 q2 q3 q4 q5 q6 q7 q8 q9 q10 hi1 hi2 hi3
        generalize wr = w6 at HO1 HB ⊢
        have SA3 := S4.out.r.r3
        generalize d.A3 = A3 at SA3 ⊢
        have SAA := Aside0.mk SA3
        clear SA3
        go_loopg [143] (t.f3.length + 1) (fun kq v143 w' => ∃ (j : Nat), v143 = .int .i64 (j : Int) ∧ Aside0 (kq = t.f3.length - j + 1) ∧ Aside0 (j ≤ t.f3.length) ∧ Aside0 (Kd.S k48 48 w' w5.heap.size (fun _ => True) (.slice Ao times.length co) ((t.f3.take j).foldl setSync (outs1 t times offs durs times.length times.length))) ∧ Aside0 (Below w5.heap.size w5 w'))
        case atStart => exact ⟨0, rfl, ⟨rfl⟩, ⟨Nat.zero_le _⟩, HO1, HB⟩
        case round =>
          clear HO1 HB HI HQ
          obtain ⟨j, rfl, HQ, HI, HO, HB⟩ := hrel
          by_cases hj : j < t.f3.length
          · have hj1 : decide ((j : Int) < (t.f3.length : Int)) = true := decide_eq_true (by omega)
            have hj2 : decide (j < t.f3.length) = true := decide_eq_true hj
            have hj3 : (j < t.f3.length) = True := eq_true hj
            have HJ1 := Aside0.mk hj
            have e8 : wrap64 ((j : Int) + 1) = ((j + 1 : Nat) : Int) := by have := S4.out.r.r3.2.1; unfold wrap64; omega
            obtain ⟨ads, es, xs⟩ := Kd.at_int SAA.out (j : Int) (by omega) (by omega)
            cases es
            rw [Int.toNat_natCast] at xs
            have xs2 := (HB.out.cell (World.block_lt_of_cell? w5 _ xs)).trans xs
            have hy := HN.out.y j hj
            have HNXT := Aside0.mk (syncs_next hj (outs1 t times offs durs times.length times.length))
            generalize rd t.f3 j = sv at xs xs2 hy HNXT
            obtain ⟨sn, hsn⟩ : ∃ sn : Nat, sv - 1 = (sn : Int) := ⟨(sv - 1).toNat, by omega⟩
            have hs1 : wrap64 (sv - 1) = (sn : Int) := by have := HN.out.n; unfold wrap64; omega
            have hs2 : IntKind.i64.wrap (sv - 1) = (sn : Int) := by rw [IntKind.wrap_i64]; have := HN.out.n; omega
            have hs3 : sn < times.length := by omega
            have hs4 : (sn < times.length) = True := eq_true hs3
            generalize hol : (t.f3.take j).foldl setSync (outs1 t times offs durs times.length times.length) = ol at HO HNXT
            have hln : ol.length = times.length := by rw [← hol, syncs_len, outs1_len (Nat.le_refl _)]
            obtain ⟨gg, cap, eg, gb, gl, cl, hg⟩ := Kd.S_form HO.out (by omega)
            injection eg with eg1 eg2 eg3
            subst eg1 eg3
            obtain ⟨vv, oki, hh⟩ := Hole.lend HO.out hs3
            have HH : Aside0 (Put w5 wr gg times.length co ol sn (ol.getD sn z48) vv oki) := ⟨⟨hh, HB.out⟩⟩
            generalize hxx : ol.getD sn z48 = xx at HH
            have HNX : Aside0 ((t.f3.take (j + 1)).foldl setSync (outs1 t times offs durs times.length times.length) = ol.set sn { xx with f6 := true }) := ⟨by rw [HNXT.out, setSync, hsn, Int.toNat_natCast, hxx]⟩
            have c6 : wr.cell? ⟨gg, sn * 8 + 6, none⟩ = some (.bool xx.f6) := HH.out.h.cell 6 _ rfl
            have f6 : wr.frozen? ⟨gg, sn * 8 + 6, none⟩ = false := HH.out.h.frozen 6
            clear eg2 gb gl hg hln hol hh hxx HNXT hsn hy xs HO HB hj
            go_wp2_with fail
            go_roundg (t.f3.length - (j + 1) + 1)
            case measure => have := HQ.out; have := HJ1.out; omega
            case rel => exact ⟨j + 1, by first | rfl | (simp; done) | rw [e8], ⟨rfl⟩, ⟨HJ1.out⟩, ⟨by rw [HNX.out]; exact (HH.out.put 6 (.bool true) rfl (by omega) { xx with f6 := true } rfl rfl).h.back⟩, ⟨(HH.out.put 6 (.bool true) rfl (by omega) { xx with f6 := true } rfl rfl).b⟩⟩
          · have hj1 : decide ((j : Int) < (t.f3.length : Int)) = false := decide_eq_false (by omega)
            have hj2 : decide (j < t.f3.length) = false := decide_eq_false hj
            have hj3 : (j < t.f3.length) = False := eq_false hj
            have HO2 : Aside0 (Kd.S k48 48 wr w5.heap.size (fun _ => True) (.slice Ao times.length co) (outs2 t times offs durs)) := ⟨by have h9 := HO.out; rw [List.take_of_length_le (by omega)] at h9; exact h9⟩
            clear HO hj HQ HI SAA
            obtain ⟨q0, q1, q2, q3, q4, q5, q6, q7, q8, q9, q10⟩ := (S4.out.k.below HB.out).cells
            go_wp2_with fail
            clear q0 q1 q2 q3 q4 q5 q6 q7 q8 q9 q10 hj1 hj2 hj3
            generalize wr = w7 at HO2 HB ⊢
            have SA8 := S4.out.r.r8
            generalize d.A8 = A8 at SA8 ⊢
            have SAA := Aside0.mk SA8
            clear SA8
            obtain ⟨out2, hout2⟩ : ∃ z, outs2 t times offs durs = z := ⟨_, rfl⟩
            have HOUT2 := Aside0.mk hout2
            rw [hout2] at HO2
            have HL2 : Aside0 (out2.length = times.length) := ⟨by rw [← hout2, outs2, syncs_len, outs1_len (Nat.le_refl _)]⟩
            clear hout2
            go_loopg [16, 156] (t.f8.length + 1) (fun kq v16 v156 w' => ∃ (c : Nat), v16 = .int .i64 ((placeC t.f8 ms out2 c).i : Int) ∧ v156 = .int .i64 (c : Int) ∧ Aside0 (kq = t.f8.length - c + 1) ∧ Aside0 (c ≤ t.f8.length) ∧ Aside0 (Kd.S k48 48 w' w5.heap.size (fun _ => True) (.slice Ao times.length co) (placeC t.f8 ms out2 c).out) ∧ Aside0 (Below w5.heap.size w5 w'))
            case atStart => exact ⟨0, rfl, rfl, ⟨rfl⟩, ⟨Nat.zero_le _⟩, HO2, HB⟩
            case round =>
              clear HO2 HB
              obtain ⟨c, rfl, rfl, HQ, HI, HO, HB⟩ := hrel
              by_cases hj : c < t.f8.length
              · have hj1 : decide ((c : Int) < (t.f8.length : Int)) = true := decide_eq_true (by omega)
                have hj2 : decide (c < t.f8.length) = true := decide_eq_true hj
                have hj3 : (c < t.f8.length) = True := eq_true hj
                have HJ1 := Aside0.mk hj
                have e8 : wrap64 ((c : Int) + 1) = ((c + 1 : Nat) : Int) := by have := S4.out.r.r8.2.1; unfold wrap64; omega
                obtain ⟨ads, es, xs⟩ := Kd.at_int SAA.out (c : Int) (by omega) (by omega)
                cases es
                rw [Int.toNat_natCast] at xs
                have xs2 := (HB.out.cell (World.block_lt_of_cell? w5 _ xs)).trans xs
                obtain ⟨pv, hpv⟩ : ∃ z, rd t.f8 c = z := ⟨_, rfl⟩
                obtain ⟨s0, hs0⟩ : ∃ z : PSt, (⟨(placeC t.f8 ms out2 c).out, (placeC t.f8 ms out2 c).i, pv⟩ : PSt) = z := ⟨_, rfl⟩
                have HNX : Aside0 (placeC t.f8 ms out2 (c + 1) = placeN (c : Int) (ms c).toNat s0) := ⟨by rw [placeC, hpv, hs0]⟩
                have hs1 : s0.out.length = times.length := by rw [← hs0]; exact (placeC_len _ _ _ _).trans HL2.out
                have hs2 : s0.i + (ms c).toNat ≤ times.length := by
                  rw [← hs0]
                  show (placeC t.f8 ms out2 c).i + _ ≤ _
                  rw [placeC_i]
                  exact Nat.le_trans (sumM_mono ms (show c + 1 ≤ t.f8.length by omega)) HN.out.m
                have hi0 : (placeC t.f8 ms out2 c).i = s0.i := by rw [← hs0]
                have HO3 : Aside0 (Kd.S k48 48 wr w5.heap.size (fun _ => True) (.slice Ao times.length co) s0.out) := ⟨by rw [← hs0]; exact HO.out⟩
                rw [hi0]
                rw [hpv] at xs2
                have HS0 := Aside0.mk (And.intro hs1 (And.intro hs2 (show pv = s0.place by rw [← hs0])))
                have HMC := Aside0.mk (HN.out.c c hj)
                obtain ⟨mc, hmc⟩ : ∃ z, ms c = z := ⟨_, rfl⟩
                rw [hmc] at HMC HNX HS0
                clear hs0 hs1 hs2 hi0 hpv xs HO hj hmc
                obtain ⟨q0, q1, q2, q3, q4, q5, q6, q7, q8, q9, q10⟩ := (S4.out.k.below HB.out).cells
                go_wp2_with fail
                have RR := S4.out.r.below HB.out
                refine (table_inChunk.calls k t.f0 d.A1 d.c1 t.f1 d.A2 d.c2 t.f2 d.A3 d.c3 t.f3 t.f4 t.f5 d.A6 d.c6 t.f6 d.A7 d.c7 t.f7 d.A8 d.c8 t.f8 d.A9 d.c9 t.f9 d.A10 d.c10 t.f10 (c : Int) mc wr RR.r1 RR.c1 RR.r2 RR.c2 RR.r3 RR.c3 RR.r6 RR.c6 RR.r7 RR.c7 RR.r8 RR.c8 RR.r9 RR.c9 RR.r10 RR.c10 HMC.out).mono ?_
                rintro e w8 ⟨rfl, hb⟩
                have HB8 := Aside0.mk (below_step HB.out hb)
                have HO8 := Aside0.mk (Kd.S_below HO3.out hb)
                clear hb HB HO3 RR q0 q1 q2 q3 q4 q5 q6 q7 q8 q9 q10
                go_wp2_with fail
                go_loopg [16, 18, 164] (mc.toNat + 1) (fun kq v16 v18 v164 w' => ∃ (m : Nat), v16 = .int .i64 ((placeN (c : Int) m s0).i : Int) ∧ v18 = .int .i64 (placeN (c : Int) m s0).place ∧ v164 = .int .i64 (m : Int) ∧ Aside0 (kq = mc.toNat - m + 1) ∧ Aside0 (m ≤ mc.toNat) ∧ Aside0 (Kd.S k48 48 w' w5.heap.size (fun _ => True) (.slice Ao times.length co) (placeN (c : Int) m s0).out) ∧ Aside0 (Below w5.heap.size w5 w'))
                case atStart => exact ⟨0, rfl, by rw [HS0.out.2.2]; rfl, rfl, ⟨rfl⟩, ⟨Nat.zero_le _⟩, HO8, HB8⟩
                case round =>
                  clear HO8 HB8 xs2
                  obtain ⟨m, rfl, rfl, rfl, MQ, MI, HO, HB⟩ := hrel
                  by_cases hm : m < mc.toNat
                  · have hm1 : decide ((m : Int) < mc) = true := decide_eq_true (by omega)
                    have hm3 : ((m : Int) < mc) = True := eq_true (by omega)
                    have HM1 := Aside0.mk hm
                    have HNM : Aside0 (placeN (c : Int) (m + 1) s0 = placeOne (c : Int) (placeN (c : Int) m s0)) := ⟨rfl⟩
                    have hsi : (placeN (c : Int) m s0).i < times.length := by rw [placeN_i]; have := HS0.out.2.1; omega
                    have hsl : (placeN (c : Int) m s0).out.length = times.length := by rw [placeN_len]; exact HS0.out.1
                    generalize placeN (c : Int) m s0 = st at HO HNM hsi hsl ⊢
                    have e9 : wrap64 ((m : Int) + 1) = ((m + 1 : Nat) : Int) := by have := HN.out.n; have := HS0.out.2.1; unfold wrap64; omega
                    have e10 : wrap64 ((st.i : Int) + 1) = ((st.i + 1 : Nat) : Int) := by have := HN.out.n; unfold wrap64; omega
                    obtain ⟨gg, cap, eg, gb, gl, cl, hg⟩ := Kd.S_form HO.out (by omega)
                    injection eg with eg1 eg2 eg3
                    subst eg1 eg3
                    obtain ⟨vv, oki, hh⟩ := Hole.lend HO.out hsi
                    have hs3 : (st.i < times.length) = True := eq_true hsi
                    have HH : Aside0 (Put w5 wr gg times.length co st.out st.i (st.out.getD st.i z48) vv oki) := ⟨⟨hh, HB.out⟩⟩
                    generalize hxx : st.out.getD st.i z48 = xx at HH
                    have HPL : Aside0 (placeOne (c : Int) st = ⟨st.out.set st.i { xx with f5 := (c : Int), f4 := st.place }, st.i + 1, wrap64 (st.place + xx.f3)⟩) := ⟨by rw [placeOne, hxx]⟩
                    have c5 : wr.cell? ⟨gg, st.i * 8 + 5, none⟩ = some (.int .i64 xx.f5) := HH.out.h.cell 5 _ rfl
                    have c4 : wr.cell? ⟨gg, st.i * 8 + 4, none⟩ = some (.int .i64 xx.f4) := HH.out.h.cell 4 _ rfl
                    have c3 : wr.cell? ⟨gg, st.i * 8 + 3, none⟩ = some (.int .i64 xx.f3) := HH.out.h.cell 3 _ rfl
                    have f5 : wr.frozen? ⟨gg, st.i * 8 + 5, none⟩ = false := HH.out.h.frozen 5
                    have f4 : wr.frozen? ⟨gg, st.i * 8 + 4, none⟩ = false := HH.out.h.frozen 4
                    have P2 := Aside0.mk ((HH.out.put 5 (.int .i64 (c : Int)) rfl (by omega) { xx with f5 := (c : Int) } rfl rfl).put 4 (.int .i64 st.place) rfl (by omega) { xx with f5 := (c : Int), f4 := st.place } rfl rfl)
                    clear eg2 gb gl hg hsl hh hxx HO HB hm
                    go_wp2_with fail
                    go_roundg (mc.toNat - (m + 1) + 1)
                    case measure => have := MQ.out; have := HM1.out; omega
                    case rel => exact ⟨m + 1, by rw [HNM.out, HPL.out]; first | rfl | rw [e10], by rw [HNM.out, HPL.out], by first | rfl | rw [e9], ⟨rfl⟩, ⟨HM1.out⟩, ⟨by rw [HNM.out, HPL.out]; exact P2.out.h.back⟩, ⟨P2.out.b⟩⟩
                  · have hm1 : decide ((m : Int) < mc) = false := decide_eq_false (by omega)
                    have hm3 : ((m : Int) < mc) = False := eq_false (by omega)
                    have hme : m = mc.toNat := by have := MI.out; omega
                    rw [hme]
                    rw [hme] at HO
                    rw [← HNX.out] at HO ⊢
                    clear hm hme
                    go_wp2_with fail
                    go_roundg (t.f8.length - (c + 1) + 1)
                    case measure => have := HQ.out; have := HJ1.out; omega
                    case rel => exact ⟨c + 1, rfl, by first | rfl | (simp; done) | rw [e8], ⟨rfl⟩, ⟨HJ1.out⟩, HO, HB⟩
              · have hj1 : decide ((c : Int) < (t.f8.length : Int)) = false := decide_eq_false (by omega)
                have hj2 : decide (c < t.f8.length) = false := decide_eq_false hj
                have hj3 : (c < t.f8.length) = False := eq_false hj
                have hce : c = t.f8.length := by have := HI.out; omega
                have HO3 : Aside0 (Kd.S k48 48 wr w5.heap.size (fun _ => True) (.slice Ao times.length co) (outs3 t times offs durs ms)) := ⟨by have h9 := HO.out; rw [hce] at h9; rw [outs3, HOUT2.out]; exact h9⟩
                clear HO hj hce
                go_wp2_with fail
                go_ret2
                exact ⟨_, rfl, Kd.S_lower HO3.out S4.out.b.size, below_step S4.out.b HB.out⟩
  · have hz1 : (r != 0) = true := by simp [hz]
    go_wp2_with fail
    go_ret2
    exact ⟨_, rfl, by first | exact Kd.S_nil _ _ _ _ _ | (rw [if_neg hz]; exact Kd.S_nil _ _ _ _ _), B2.out⟩
end Go.Proofs.Ytmbhafgnmdfjhaa.QTab
