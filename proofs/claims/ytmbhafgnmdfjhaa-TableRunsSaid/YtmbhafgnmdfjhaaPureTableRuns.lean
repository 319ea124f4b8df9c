/- A text of the pure side: the runs of any list, and the list of any runs, as numbers and lists. No condition. -/
import Derived.Test.YtmbhafgnmdfjhaaLRuns
import Derived.Test.YtmbhafgnmdfjhaaPTa
import Derived.Test.YtmbhafgnmdfjhaaPEqi9
namespace Go.Proofs.Ytmbhafgnmdfjhaa.Pure
open Go.RowKit Go.Proofs.Ytmbhafgnmdfjhaa.QTab Go.Proofs.YtmbhafgnmdfjhaaW.PrintWords Go.Proofs.YtmbhafgnmdfjhaaW.PrintMore Go.Proofs.YtmbhafgnmdfjhaaV Go.Proofs.Ytmbhafgnmdfjhaa.PureT Go.Proofs.Ytmbhafgnmdfjhaa.PureTI
theorem run_step_ok {acc : List S83} (v : Int) (h : pos acc) (hm : ∀ r ∈ acc, r.f0 ≤ 1000000) : pos (runStep acc v) ∧ valG (runStep acc v) = valG acc ++ [v] ∧ sumZ (runStep acc v) = sumZ acc + 1 := by
  have happ : ∀ (l m : List S83), sumZ (l ++ m) = sumZ l + sumZ m := by
    intro l m
    induction l with
    | nil => simp [sumZ]
    | cons r t ih => simp only [List.cons_append, sumZ, ih]; omega
  unfold runStep
  by_cases hc : 0 < acc.length ∧ (rd_T83 acc ((acc.length - 1 : Nat) : Int)).f1 = v
  · rw [if_pos hc]
    rcases List.eq_nil_or_concat acc with he | ⟨i, x, he⟩
    · subst he; simp at hc
    · have he2 : acc = i ++ [x] := by rw [he, List.concat_eq_append]
      subst he2
      have hl : (i ++ [x]).length - 1 = i.length := by simp
      have hx : rd_T83 (i ++ [x]) (((i ++ [x]).length - 1 : Nat) : Int) = x := by
        rw [hl]
        show (i ++ [x]).getD (i.length : Int).toNat _ = x
        rw [Int.toNat_natCast]; simp
      have hxm : x ∈ i ++ [x] := by simp
      have h1 := h x hxm
      have h2 := hm x hxm
      have ew : wrap64 (x.f0 + 1) = x.f0 + 1 := by unfold wrap64; omega
      have hg : grow (i ++ [x]) = i ++ [⟨x.f0 + 1, v⟩] := by
        unfold grow
        rw [hx, hl, ew]
        rw [hx] at hc
        rw [← hc.2]
        simp
      rw [hx] at hc
      rw [hg]
      refine ⟨fun r hr => ?_, ?_, ?_⟩
      · rcases List.mem_append.mp hr with hr | hr
        · exact h r (List.mem_append_left _ hr)
        · rw [List.mem_singleton] at hr; subst hr; show 1 ≤ x.f0 + 1; omega
      · rw [valG_append, valG_append]
        simp only [valG, List.append_nil]
        rw [show (x.f0 + 1).toNat = x.f0.toNat + 1 by omega, List.replicate_succ', hc.2]
        simp
      · rw [happ, happ]; simp only [sumZ]; omega
  · rw [if_neg hc]
    refine ⟨fun r hr => ?_, ?_, ?_⟩
    · rcases List.mem_append.mp hr with hr | hr
      · exact h r hr
      · rw [List.mem_singleton] at hr; subst hr; exact Int.le_refl _
    · rw [valG_append]; rfl
    · rw [happ]; rfl
theorem pos_le {l : List S83} (h : pos l) : ∀ r ∈ l, r.f0 ≤ sumZ l := by
  induction l with
  | nil => intro r hr; cases hr
  | cons a t ih =>
    intro r hr
    have h1 := sumZ_nn (pos_tail h)
    have h2 := h a (List.mem_cons_self ..)
    simp only [sumZ]
    rcases List.mem_cons.mp hr with hr | hr
    · subst hr; omega
    · have := ih (pos_tail h) r hr; omega
theorem runs_ok {l0 : List Int} (hl : l0.length ≤ 400) : ∀ i, i ≤ l0.length → pos ((l0.take i).foldl runStep []) ∧ valG ((l0.take i).foldl runStep []) = l0.take i ∧ sumZ ((l0.take i).foldl runStep []) = (i : Int) := by
  intro i
  induction i with
  | zero => intro _; exact ⟨fun r hr => by simp at hr, by simp [valG], by simp [sumZ]⟩
  | succ i ih =>
    intro hi
    obtain ⟨h1, h2, h3⟩ := ih (by omega)
    rw [run_next (show i < l0.length by omega)]
    have hmx : ∀ r ∈ (l0.take i).foldl runStep [], r.f0 ≤ 1000000 := fun r hr => by have := pos_le h1 r hr; omega
    obtain ⟨g1, g2, g3⟩ := run_step_ok (rd l0 (i : Int)) h1 hmx
    refine ⟨g1, ?_, by rw [g3, h3]; omega⟩
    rw [g2, h2, List.take_add_one]
    simp [rd, List.getD_eq_getElem?_getD, List.getElem?_eq_getElem (show i < l0.length by omega)]
theorem runs_all {l0 : List Int} (hl : l0.length ≤ 400) : pos (runsF l0) ∧ valG (runsF l0) = l0 ∧ sumZ (runsF l0) = (l0.length : Int) := by
  have h := runs_ok hl l0.length (Nat.le_refl _)
  rw [List.take_length] at h
  exact h
theorem runs_flen (l0 : List Int) : (runsF l0).length ≤ l0.length := by
  have h := run_len l0 l0.length
  rw [List.take_length] at h
  exact h
theorem eqr_l0 {l : List S83} (hl : l.length ≤ 9223372036854775806) : ∀ (t : List S83) (i : Nat), l.drop i = t → i ≤ l.length → Ev (fun k => dioramaref00_EqRuns.l0 k l l (i : Int)) true
  | [], i, h, hi => by
    have hil : i = l.length := by have h2 := congrArg List.length h; simp at h2; omega
    subst hil
    exact Ev.step (f := fun _ => some true) (fun k => by simp only [dioramaref00_EqRuns.l0]; rw [if_neg (by omega)]) (Ev.now _)
  | r :: t, i, h, hi => by
    obtain ⟨h1, h2, _⟩ := drop_at h
    refine Ev.step (fun k => ?_) (eqr_l0 hl t (i + 1) h2 h1)
    simp only [dioramaref00_EqRuns.l0]
    rw [if_pos (by omega), if_pos (by omega), if_pos (by omega), if_neg (by simp), w_next (by omega)]
theorem eqr_ev {l : List S83} (hl : l.length ≤ 9223372036854775806) : Ev (fun k => dioramaref00_EqRuns.f k l l) true := by
  unfold dioramaref00_EqRuns.f
  simp only [if_pos]
  exact eqr_l0 hl l 0 rfl (Nat.zero_le _)
theorem low_pos {l : List S83} : l.any lowB = false ↔ pos l := by
  constructor
  · intro h r hr
    rw [List.any_eq_false] at h
    have h2 := h r hr
    simp only [lowB, decide_eq_true_eq] at h2
    omega
  · intro h
    rw [List.any_eq_false]
    intro r hr
    have := h r hr
    simp only [lowB, decide_eq_true_eq]
    omega
def vF (l : List S83) : List Int × Int := if l.any lowB = true then ([], 1) else if 400 < sumZ l then ([], 2) else (valG l, 0)
theorem vals_ev {l : List S83} (hl : l.length ≤ 9223372036854775806) : Ev (fun k => table_Values.f k l) (vF l) := by
  unfold table_Values.f vF
  cases hb : l.any lowB with
  | true => simp only [if_pos]; exact Ev.now _
  | false =>
    have hp := low_pos.mp hb
    simp only [Bool.false_eq_true, if_false]
    obtain ⟨t1, t2⟩ := tot_cnt l 0 hp (by omega) (by omega)
    rw [Int.zero_add] at t1 t2
    by_cases hs : 400 < sumZ l
    · rw [if_pos hs]
      have h1 := total_ev hl
      rw [(t2 hs).1] at h1
      exact Ev.bind h1 (by simp only [show ((401 : Int) > 400) = True from by simp, if_true]; exact Ev.now _)
    · rw [if_neg hs]
      have h1 := total_ev hl
      rw [(t1 (by omega)).1] at h1
      refine Ev.bind h1 ?_
      simp only [if_neg (show ¬ sumZ l > 400 by omega)]
      exact Ev.bind (values_ev hl hp (by omega)) (Ev.now _)
theorem rvals_l0 {l : List S83} (hl : l.length ≤ 9223372036854775806) : ∀ (t : List S83) (i : Nat), l.drop i = t → i ≤ l.length → (l.any lowB = t.any lowB) → Ev (fun k => dioramaref09_Values.l0 k l (i : Int)) (vF l)
  | [], i, h, hi, ha => by
    have hil : i = l.length := by have h2 := congrArg List.length h; simp at h2; omega
    subst hil
    have hb : l.any lowB = false := by rw [ha]; rfl
    have hp := low_pos.mp hb
    obtain ⟨t1, t2⟩ := tot_cnt l 0 hp (by omega) (by omega)
    rw [Int.zero_add] at t1 t2
    unfold vF
    rw [hb]
    simp only [Bool.false_eq_true, if_false]
    refine Ev.step (f := fun k => (dioramaref09_counted.f k l).bind fun t206 => (if t206 > 400 then (some (([] : List Int), 2)) else ((dioramaref09_values.f k l).bind fun t207 => (some (t207, 0))))) (fun k => by simp only [dioramaref09_Values.l0]; rw [if_neg (by omega)]) ?_
    by_cases hs : 400 < sumZ l
    · rw [if_pos hs]
      have h1 := counted_ev hl
      rw [(t2 hs).2] at h1
      exact Ev.bind h1 (by simp only [show ((401 : Int) > 400) = True from by simp, if_true]; exact Ev.now _)
    · rw [if_neg hs]
      have h1 := counted_ev hl
      rw [(t1 (by omega)).2] at h1
      refine Ev.bind h1 ?_
      simp only [if_neg (show ¬ sumZ l > 400 by omega)]
      exact Ev.bind (rvalues_ev hl hp (by omega)) (Ev.now _)
  | r :: t, i, h, hi, ha => by
    obtain ⟨h1, h2, _⟩ := drop_at h
    by_cases hr : r.f0 < 1
    · have hb : l.any lowB = true := by rw [ha, List.any_cons]; simp [lowB, hr]
      refine Ev.step (f := fun _ => some (vF l)) (fun k => ?_) (Ev.now _)
      simp only [dioramaref09_Values.l0]
      rw [if_pos (by omega), if_pos (by omega), rdT_drop h, if_pos hr]
      unfold vF
      rw [if_pos hb]
    · have ha2 : l.any lowB = t.any lowB := by rw [ha, List.any_cons]; simp [lowB, hr]
      refine Ev.step (fun k => ?_) (rvals_l0 hl t (i + 1) h2 h1 ha2)
      simp only [dioramaref09_Values.l0]
      rw [if_pos (by omega), if_pos (by omega), rdT_drop h, if_neg hr, w_next (by omega)]
theorem rvals_ev {l : List S83} (hl : l.length ≤ 9223372036854775806) : Ev (fun k => dioramaref09_Values.f k l) (vF l) := rvals_l0 hl l 0 rfl (Nat.zero_le _) rfl
theorem vF_len (l : List S83) : (vF l).1.length ≤ 400 := by
  unfold vF
  split
  · simp
  · rename_i h
    split
    · simp
    · have h2 := valG_len l (low_pos.mp (by simpa using h))
      show (valG l).length ≤ 400
      omega
theorem TableRuns : ∀ (l0 : List (Int)) (l1 : List (S83)), l0.length ≤ maxLen → (∀ y ∈ l0, (Lit.int .i64 y).wf = true) → l1.length ≤ maxLen → (∀ y ∈ l1, ((Lit.int .i64 y.f0).wf = true) ∧ ((Lit.int .i64 y.f1).wf = true)) → ∃ k, dioramalaw09_TableRuns.f k l0 l1 = some true := by
  intro l0 l1 _ _ _ _
  by_cases hg : l0.length ≤ 400 ∧ l1.length ≤ 1000
  · have hf := runs_flen l0
    obtain ⟨p1, p2, p3⟩ := runs_all hg.1
    have hv : vF (runsF l0) = (l0, 0) := by
      unfold vF
      rw [low_pos.mpr p1, if_neg (by simp), if_neg (by rw [p3]; omega), p2]
    have e1 := eqr_ev (l := runsF l0) (by omega)
    have e2 := vals_ev (l := runsF l0) (by omega)
    rw [hv] at e2
    have e3 := eqi_ev (l := l0) (u := l0) (by omega)
    have e4 := vals_ev (l := l1) (by omega)
    have e5 := rvals_ev (l := l1) (by omega)
    have e6 := eqi_ev (l := (vF l1).1) (u := (vF l1).1) (by have := vF_len l1; omega)
    simp only [decide_true] at e3 e6
    have hE : Ev (fun k => dioramalaw09_TableRuns.f k l0 l1) true := by
      unfold dioramalaw09_TableRuns.f
      simp only [if_pos hg]
      refine Ev.bind e1 (Ev.bind e2 (Ev.bind e3 (Ev.bind e4 (Ev.bind e5 (Ev.bind e6 ?_)))))
      simp only [and_self, if_true]
      exact Ev.now _
    obtain ⟨K, hK⟩ := hE
    exact ⟨K, hK K (Nat.le_refl _)⟩
  · exact ⟨0, by unfold dioramalaw09_TableRuns.f; rw [if_neg hg]⟩
end Go.Proofs.Ytmbhafgnmdfjhaa.Pure
