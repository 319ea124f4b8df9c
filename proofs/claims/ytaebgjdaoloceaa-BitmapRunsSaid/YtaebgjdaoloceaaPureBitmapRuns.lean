/- What is proved: the runs of any pixels, and the pixels of any runs, are the chapter's; what is coded is read, and what is read is coded as the same bytes. This text: the statement about numbers alone. No condition. -/
import Derived.Test.YtaebgjdaoloceaaPPixR
import Derived.Test.YtaebgjdaoloceaaPEqb
import Derived.Test.YtaebgjdaoloceaaPEqi
import Derived.Test.YtaebgjdaoloceaaQBitmapx12
namespace Go.Proofs.Ytaebgjdaoloceaa.Pure
open Go.RowKit Go.Proofs.Ytaebgjdaoloceaa.QBitmap Go.Proofs.YtaebgjdaoloceaaW.PrintWords Go.Proofs.YtaebgjdaoloceaaV Go.Proofs.Ytaebgjdaoloceaa.PureB Go.Proofs.Ytaebgjdaoloceaa.PureI
theorem rows_len (w : Nat) : ∀ (h : Nat) (l : List Int), (rows w h l).length ≤ 2 * l.length
  | 0, l => by simp [rows]
  | h + 1, l => by
    have h1 := row_len _ (l.take w) rfl
    have h2 := rows_len w h (l.drop w)
    rw [rows, List.length_append]
    simp only [List.length_take, List.length_drop] at h1 h2
    omega
theorem runF_len {l : List Int} {wide : Int} (hl : l.length ≤ 5000) : (runF l wide).1.length ≤ 10000 := by
  unfold runF
  split
  · split
    · have := rows_len wide.toNat (l.length / wide.toNat) l
      simp only; omega
    · simp
  · simp
/-- What is coded is read. -/
theorem pix_run {l : List Int} {wide : Int} (h : (runF l wide).2 = 0) : (1 ≤ wide ∧ wide ≤ 64) ∧ pixF (runF l wide).1 wide ((l.length / wide.toNat : Nat) : Int) = (l, 0) := by
  unfold runF at h ⊢
  split at h
  · rename_i hw
    rw [if_pos hw]
    split at h
    · rename_i hd
      rw [if_pos hd]
      refine ⟨hw.1, ?_⟩
      have e : l.length = l.length / wide.toNat * wide.toNat := by have := Nat.div_add_mod l.length wide.toNat; rw [Nat.mul_comm] at this; omega
      have hz : l.length / wide.toNat = 0 → l.length = 0 := fun q => by rw [q] at e; simpa using e
      have := dec_rows wide.toNat (by omega) (l.length / wide.toNat) l [] e (bad_not hw.2)
      rw [List.append_nil] at this
      obtain ⟨q, hq⟩ : ∃ q, l.length / wide.toNat = q := ⟨_, rfl⟩
      rw [hq] at this hz hd ⊢
      rw [pixF, if_pos ⟨hw.1, by omega⟩, Int.toNat_natCast]
      simp only
      rw [this]
      rfl
    · simp at h
  · simp at h
theorem endF_ok {d : List Int × List Int × Int} (h : (endF [] d).2 = 0) : d.2.2 = 0 ∧ d.2.1 = [] ∧ endF [] d = (d.1, 0) := by
  unfold endF at h ⊢
  split at h
  · rename_i h1
    split at h
    · rename_i h2
      exact ⟨h1, h2, by rw [if_pos h1, if_pos h2]; rfl⟩
    · simp at h
  · rename_i h1; exact absurd h h1
theorem pix_ok {b : List Int} {wide high : Int} (hb : ∀ x ∈ b, 0 ≤ x ∧ x ≤ 255) (h : (pixF b wide high).2 = 0) : (pixF b wide high).1.length ≤ 4096 ∧ runF (pixF b wide high).1 wide = (b, 0) := by
  unfold pixF at h ⊢
  split at h
  · rename_i hw
    rw [if_pos hw]
    obtain ⟨h1, h2, h3⟩ := endF_ok h
    obtain ⟨i1, i2, i3⟩ := rows_dec wide.toNat (by omega) high.toNat b hb h1
    rw [h3]
    rw [h2, List.append_nil] at i3
    simp only
    obtain ⟨d, hd⟩ : ∃ d, (decA wide.toNat high.toNat b).1 = d := ⟨_, rfl⟩
    rw [hd] at i1 i2 i3 ⊢
    have hm := mul_le (h := high.toNat) (w := wide.toNat) (by omega) (by omega)
    have hb' : bad d = false := by
      rw [bad, List.any_eq_false]
      intro x hx
      have := i2 x hx
      simp [this.1, this.2]
    have e1 : d.length % wide.toNat = 0 := by rw [i1]; exact Nat.mul_mod_left _ _
    have e2 : d.length / wide.toNat = high.toNat := by rw [i1]; exact Nat.mul_div_cancel _ (by omega)
    have e3 : 1 ≤ d.length := by rw [i1]; exact Nat.mul_pos (by omega) (by omega)
    refine ⟨by omega, ?_⟩
    rw [runF, if_pos ⟨hw.1, hb'⟩, if_pos ⟨e3, e1, by omega⟩, e2, ← i3]
  · simp at h
theorem pixF_len {b : List Int} {wide high : Int} (hb : ∀ x ∈ b, 0 ≤ x ∧ x ≤ 255) : (pixF b wide high).1.length ≤ 4096 := by
  by_cases h : (pixF b wide high).2 = 0
  · exact (pix_ok hb h).1
  · unfold pixF at h ⊢
    split at h
    · rename_i hw
      rw [if_pos hw]
      unfold endF at h ⊢
      split at h
      · rename_i h1
        rw [if_pos h1]
        split at h
        · exact absurd rfl h
        · rename_i h2
          rw [if_neg h2]; simp
      · rename_i h1
        rw [if_neg h1]; simp
    · rename_i hw
      rw [if_neg hw]; simp
theorem awake_run : runF [3, 3, 3, 5, 5] 5 = ([51, 80], 0) := by
  have e : rows 5 1 [3, 3, 3, 5, 5] = [51, 80] := by simp [rows, rowF, heads, code]
  rw [runF, if_pos ⟨by decide, by decide⟩, if_pos (by decide)]
  exact congrArg (·, (0 : Int)) e
theorem ev_awake : Ev (fun k => dioramalaw19_awake.f k) true := by
  unfold dioramalaw19_awake.f
  refine Ev.bind (ev_run (by simp)) ?_
  rw [awake_run]
  simp only [if_true]
  refine Ev.bind (eqb_ev (by simp)) ?_
  simp only [decide_true, Bool.not_true]
  have hp := (pix_run (l := [3, 3, 3, 5, 5]) (wide := 5) (by rw [awake_run])).2
  rw [awake_run] at hp
  have hp : pixF [51, 80] 5 1 = ([3, 3, 3, 5, 5], 0) := hp
  have h2 : Ev (fun k => (bitmap_Pixels.f k [51, 80] 5 1).bind fun bt238 => (if bt238.2 = 0 then ((dioramaref00_EqInts.f k bt238.1 (([3, 3, 3, 5, 5] : List Int))).bind fun t245 => (some t245)) else (some false))) true := by
    refine Ev.bind (ev_pix (by simp)) ?_
    rw [hp]
    simp only [if_true]
    refine Ev.bind (eqi_ev (by simp)) ?_
    simp only [decide_true]
    exact Ev.now _
  refine Ev.step (fun k => ?_) h2
  rw [dioramalaw19_awake.j0, if_neg (by simp)]
section
variable {b l : List Int} {wide high : Int}
theorem last_ev : Ev (fun k => (dioramalaw19_awake.f k).bind fun t => (some t)) true := Ev.bind ev_awake (Ev.now _)
theorem j3_ev (hl : b.length ≤ 5000) (hb : ∀ x ∈ b, 0 ≤ x ∧ x ≤ 255) : Ev (fun k => dioramalaw19_BitmapRuns.j3 k wide b (pixF b wide high).1 (pixF b wide high).2 false) true := by
  by_cases h : (pixF b wide high).2 = 0
  · obtain ⟨h1, h2⟩ := pix_ok hb h
    refine Ev.step (f := fun k => (bitmap_Runs.f k (pixF b wide high).1 wide).bind fun bt270 => (if bt270.2 = 0 then ((dioramaref00_EqBytes.f k bt270.1 b).bind fun t274 => (if t274 = true then ((dioramalaw19_awake.f k).bind fun t275 => (some t275)) else (some false))) else (some false))) (fun k => ?_) ?_
    · rw [dioramalaw19_BitmapRuns.j3, if_neg (by simp), if_pos h]
    · refine Ev.bind (ev_run (by omega)) ?_
      rw [h2]
      simp only [if_true]
      refine Ev.bind (eqb_ev (by omega)) ?_
      simp only [decide_true, if_true]
      exact last_ev
  · refine Ev.step (fun k => ?_) last_ev
    rw [dioramalaw19_BitmapRuns.j3, if_neg (by simp), if_neg h]
theorem j2_ev (hl : b.length ≤ 5000) (hb : ∀ x ∈ b, 0 ≤ x ∧ x ≤ 255) : Ev (fun k => dioramalaw19_BitmapRuns.j2 k wide b high) true := by
  refine Ev.step (fun k => by rw [dioramalaw19_BitmapRuns.j2]) ?_
  refine Ev.bind (ev_pix hb) (Ev.bind (ev_rpix hl hb) ?_)
  simp only [if_true]
  refine Ev.bind (eqi_ev (by have := pixF_len (wide := wide) (high := high) hb; omega)) ?_
  simp only [decide_true, Bool.not_true]
  exact j3_ev hl hb
theorem j1_ev (hl : b.length ≤ 5000) (hL : l.length ≤ 5000) (hb : ∀ x ∈ b, 0 ≤ x ∧ x ≤ 255) (hx : ∀ x ∈ (runF l wide).1, 0 ≤ x ∧ x ≤ 255) : Ev (fun k => dioramalaw19_BitmapRuns.j1 k l wide b high (runF l wide).1 (runF l wide).2 false) true := by
  by_cases h : (runF l wide).2 = 0
  · obtain ⟨hw, hp⟩ := pix_run h
    have ew : wrap64 ((l.length : Int) / wide) = ((l.length / wide.toNat : Nat) : Int) := by
      obtain ⟨w, rfl⟩ : ∃ w : Nat, wide = (w : Int) := ⟨wide.toNat, by omega⟩
      have hdl : l.length / w ≤ l.length := Nat.div_le_self _ _
      rw [Int.toNat_natCast, div_nat]
      obtain ⟨q, hq⟩ : ∃ q, l.length / w = q := ⟨_, rfl⟩
      rw [hq] at hdl ⊢
      exact w64 (by omega) (by omega)
    refine Ev.step (f := fun k => (bitmap_Pixels.f k (runF l wide).1 wide ((l.length / wide.toNat : Nat) : Int)).bind fun bt256 => (if bt256.2 = 0 then ((dioramaref00_EqInts.f k bt256.1 l).bind fun t260 => (if t260 = true then (dioramalaw19_BitmapRuns.j2 k wide b high) else (some false))) else (some false))) (fun k => ?_) ?_
    · rw [dioramalaw19_BitmapRuns.j1, if_neg (by simp), if_pos h, if_neg (by omega), ew]
    · refine Ev.bind (ev_pix hx) ?_
      rw [hp]
      simp only [if_true]
      refine Ev.bind (eqi_ev (by omega)) ?_
      simp only [decide_true, if_true]
      exact j2_ev hl hb
  · refine Ev.step (fun k => ?_) (j2_ev (wide := wide) (high := high) hl hb)
    rw [dioramalaw19_BitmapRuns.j1, if_neg (by simp), if_neg h]
theorem code_in {c : Int} {n m : Nat} (hc : 0 ≤ c ∧ c ≤ 15) (hn : n ≤ 64) : ∀ x ∈ code c n m, 0 ≤ x ∧ x ≤ 255 := by
  intro x hx
  unfold code at hx
  split at hx
  · simp at hx; omega
  · split at hx
    · simp at hx; omega
    · simp at hx; omega
theorem row_in : ∀ (n : Nat) (r : List Int), r.length = n → n ≤ 64 → (∀ x ∈ r, 0 ≤ x ∧ x ≤ 15) → ∀ x ∈ rowF r, 0 ≤ x ∧ x ≤ 255 := by
  intro n
  induction n using Nat.strongRecOn with
  | ind n ih =>
  intro r hn hm hr
  match r, hn, hr with
  | [], _, _ => simp [rowF]
  | c :: t, hn, hr =>
    simp only [List.length_cons] at hn
    have hh := heads_le c t
    have := ih (t.drop (heads c t)).length (by simp; omega) _ rfl (by simp; omega) (fun x hx => hr x (by simp [List.mem_of_mem_drop hx]))
    rw [rowF]
    intro x hx
    rcases List.mem_append.mp hx with hx | hx
    · exact code_in (hr c (by simp)) (by omega) x hx
    · exact this x hx
theorem rows_in (w : Nat) (hw : w ≤ 64) : ∀ (h : Nat) (l : List Int), (∀ x ∈ l, 0 ≤ x ∧ x ≤ 15) → ∀ x ∈ rows w h l, 0 ≤ x ∧ x ≤ 255
  | 0, l, _ => by simp [rows]
  | h + 1, l, hl => by
    have h1 := row_in _ (l.take w) rfl (by simp; omega) (fun x q => hl x (List.mem_of_mem_take q))
    have h2 := rows_in w hw h (l.drop w) (fun x q => hl x (List.mem_of_mem_drop q))
    rw [rows]
    intro x hx
    rcases List.mem_append.mp hx with hx | hx
    · exact h1 x hx
    · exact h2 x hx
theorem runF_in : ∀ x ∈ (runF l wide).1, 0 ≤ x ∧ x ≤ 255 := by
  unfold runF
  split
  · rename_i hw
    split
    · exact rows_in _ (by omega) _ l (bad_not hw.2)
    · simp
  · simp
theorem law_ev (hb : ∀ x ∈ b, 0 ≤ x ∧ x ≤ 255) : Ev (fun k => dioramalaw19_BitmapRuns.f k l wide b high) true := by
  have stop : Ev (fun k => dioramalaw19_BitmapRuns.j0 k l wide b high true) true := Ev.step (f := fun _ => some true) (fun k => by rw [dioramalaw19_BitmapRuns.j0, if_pos rfl]) (Ev.now _)
  unfold dioramalaw19_BitmapRuns.f
  by_cases h1 : (l.length : Int) > 5000
  · simp only [if_pos h1]; exact stop
  · simp only [if_neg h1]
    by_cases h2 : (b.length : Int) > 5000
    · simp only [decide_eq_true h2]; exact stop
    · simp only [decide_eq_false h2]
      have hgo : Ev (fun k => (bitmap_Runs.f k l wide).bind fun bt247 => ((dioramaref19_Runs.f k l wide).bind fun bt251 => (if bt247.2 = bt251.2 then ((dioramaref00_EqBytes.f k bt247.1 bt251.1).bind fun t255 => (dioramalaw19_BitmapRuns.j1 k l wide b high bt247.1 bt247.2 (!t255))) else (dioramalaw19_BitmapRuns.j1 k l wide b high bt247.1 bt247.2 true)))) true := by
        refine Ev.bind (ev_run (by omega)) (Ev.bind (ev_rrun (by omega)) ?_)
        simp only [if_true]
        refine Ev.bind (eqb_ev (by have := runF_len (l := l) (wide := wide) (by omega); omega)) ?_
        simp only [decide_true, Bool.not_true]
        exact j1_ev (by omega) (by omega) hb runF_in
      refine Ev.step (fun k => ?_) hgo
      rw [dioramalaw19_BitmapRuns.j0, if_neg (by simp)]
end
theorem BitmapRuns : ∀ (l0_0 : List (Int)) (a0_1 : Int) (l0_2 : List (Int)) (a0_3 : Int), l0_0.length ≤ maxLen → (∀ y ∈ l0_0, (Lit.int .i64 y).wf = true) → ((Lit.int .i64 a0_1).wf = true) → l0_2.length ≤ maxLen → (∀ y ∈ l0_2, (Lit.int .u8 y).wf = true) → ((Lit.int .i64 a0_3).wf = true) → ∃ k, dioramalaw19_BitmapRuns.f k l0_0 a0_1 l0_2 a0_3 = some true := by
  intro l wide b high _ _ _ _ hb _
  exact Ev.rounds (law_ev (fun x h => u8b (hb x h)))
end Go.Proofs.Ytaebgjdaoloceaa.Pure
