/- A lemma file: pages on an empty canvas, the program's. No condition. -/
import Derived.Test.YtaebgjdaoloceaaPSmall
import Derived.Test.YtaebgjdaoloceaaQBmpFx4
namespace Go.Proofs.Ytaebgjdaoloceaa.PureD
open Go.RowKit Go.Proofs.Ytaebgjdaoloceaa.QBmpF Go.Proofs.YtaebgjdaoloceaaW.PrintWords Go.Proofs.YtaebgjdaoloceaaW.PrintMore Go.Proofs.YtaebgjdaoloceaaV
def emptyF (w h : Int) : Res := if inB w 1 200 = true then (if inB h 1 200 = true then (w, h, [], List.replicate (w * h).toNat (-1), 0) else (0, 0, [], [], 1)) else (0, 0, [], [], 1)
theorem ev_empty (w h : Int) : Ev (fun k => bitmap_Empty.f k w h) (emptyF w h) := by
  unfold bitmap_Empty.f emptyF
  simp only [within_d, Option.bind_some]
  cases h1 : inB w 1 200 with
  | false => exact Ev.now _
  | true =>
    cases h2 : inB h 1 200 with
    | false => exact Ev.now _
    | true =>
      obtain ⟨e1, e2, e3⟩ := wh_wrap h1 h2
      simp only [if_true, e1, if_pos e2, if_pos (show (w * h).toNat ≤ 35184372088832 by omega)]
      refine Ev.bind (ev_wipe (by simp; omega)) ?_
      rw [List.length_replicate]
      exact Ev.now _
theorem empty_len (w h : Int) : (emptyF w h).2.2.1.length ≤ 100000 ∧ (emptyF w h).2.2.2.1.length ≤ 100000 := by
  unfold emptyF
  split
  · rename_i h1
    split
    · rename_i h2
      have := wh_wrap h1 h2
      simp; omega
    · simp
  · simp
def smallP (p : S51) : Prop := smallB p.f1 p.f2
theorem rd51 {l t : List S51} {i : Nat} {x : S51} (h : l.drop i = x :: t) : rd_T51 l (i : Int) = x := by
  show l.getD (i : Int).toNat z51 = x
  rw [Int.toNat_natCast]; exact (drop_at h).2.2 z51
def goesF : Int → Int → List Int → List Int → List S51 → Res
  | w, h, pal, px, [] => (w, h, pal, px, 0)
  | w, h, pal, px, p :: t => if (drawF w h pal px p.f0 p.f1 p.f2).2.2.2.2 = 0 then goesF (drawF w h pal px p.f0 p.f1 p.f2).1 (drawF w h pal px p.f0 p.f1 p.f2).2.1 (drawF w h pal px p.f0 p.f1 p.f2).2.2.1 (drawF w h pal px p.f0 p.f1 p.f2).2.2.2.1 t else (0, 0, [], [], (drawF w h pal px p.f0 p.f1 p.f2).2.2.2.2)
def composeF (l : List S51) (w h : Int) : Res := if (emptyF w h).2.2.2.2 = 0 then goesF (emptyF w h).1 (emptyF w h).2.1 (emptyF w h).2.2.1 (emptyF w h).2.2.2.1 l else (0, 0, [], [], (emptyF w h).2.2.2.2)
section
variable {l : List S51} (hs : ∀ p ∈ l, smallP p) (hl : l.length ≤ 1000)
include hs hl
theorem goes_ev : ∀ (t : List S51) (i : Nat) (w h : Int) (pal px : List Int), l.drop i = t → i ≤ l.length → pal.length ≤ 100000 → px.length ≤ 100000 → Ev (fun k => bitmap_Compose.l0 k l (l.length : Int) (i : Int) w h pal px) (goesF w h pal px t)
  | [], i, w, h, pal, px, e, hi, h1, h2 => by
    have : i = l.length := by have h2 := congrArg List.length e; simp at h2; omega
    subst this
    refine Ev.step (f := fun _ => some (w, h, pal, px, 0)) (fun k => ?_) (Ev.now _)
    rw [bitmap_Compose.l0, if_neg (by omega)]
  | p :: t, i, w, h, pal, px, e, hi, h1, h2 => by
    have hi2 := (drop_at e).1
    have sp := hs p (List.mem_of_mem_drop (by rw [e]; exact List.mem_cons_self))
    have hd := draw_len (w := w) (h := h) (pal := pal) (px := px) (cl := p.f0) (ppal := p.f1) (pp := p.f2) h1 h2 (by have := sp.1; omega)
    refine Ev.step (f := fun k => (bitmap_Draw.f k w h pal px p.f0 p.f1 p.f2).bind fun bt353 => (if bt353.2.2.2.2 = 0 then (bitmap_Compose.l0 k l (l.length : Int) ((i + 1 : Nat) : Int) bt353.1 bt353.2.1 bt353.2.2.1 bt353.2.2.2.1) else (some (0, 0, ([] : List Int), ([] : List Int), bt353.2.2.2.2)))) (fun k => ?_) ?_
    · rw [bitmap_Compose.l0, if_pos (by omega), if_pos (by omega), if_pos (by omega), rd51 e, w_next (by omega)]
    · refine Ev.bind (ev_draw (by omega) (by omega) (by have := sp.1; omega) (by have := sp.2.1; omega) (fun x hx => by have := sp.2.2 x hx; omega)) ?_
      rw [goesF]
      by_cases hz : (drawF w h pal px p.f0 p.f1 p.f2).2.2.2.2 = 0
      · simp only [if_pos hz]
        exact goes_ev t (i + 1) _ _ _ _ (drop_at e).2.1 hi2 hd.1 hd.2
      · simp only [if_neg hz]; exact Ev.now _
theorem ev_compose (w h : Int) : Ev (fun k => bitmap_Compose.f k l w h) (composeF l w h) := by
  unfold bitmap_Compose.f composeF
  refine Ev.bind (ev_empty w h) ?_
  by_cases hz : (emptyF w h).2.2.2.2 = 0
  · simp only [if_pos hz]
    exact goes_ev hs hl l 0 _ _ _ _ rfl (Nat.zero_le _) (empty_len w h).1 (empty_len w h).2
  · simp only [if_neg hz]; exact Ev.now _
end
theorem goes_len : ∀ (t : List S51) (w h : Int) (pal px : List Int), (∀ p ∈ t, smallP p) → pal.length ≤ 100000 → px.length ≤ 100000 → (goesF w h pal px t).2.2.1.length ≤ 100000 ∧ (goesF w h pal px t).2.2.2.1.length ≤ 100000
  | [], _, _, _, _, _, h1, h2 => ⟨h1, h2⟩
  | p :: t, w, h, pal, px, hs, h1, h2 => by
    have sp := hs p List.mem_cons_self
    have hd := draw_len (w := w) (h := h) (pal := pal) (px := px) (cl := p.f0) (ppal := p.f1) (pp := p.f2) h1 h2 (by have := sp.1; omega)
    rw [goesF]
    split
    · exact goes_len t _ _ _ _ (fun q hq => hs q (List.mem_cons_of_mem _ hq)) hd.1 hd.2
    · simp
theorem compose_len {l : List S51} (hs : ∀ p ∈ l, smallP p) (w h : Int) : (composeF l w h).2.2.1.length ≤ 100000 ∧ (composeF l w h).2.2.2.1.length ≤ 100000 := by
  unfold composeF
  split
  · exact goes_len l _ _ _ _ hs (empty_len w h).1 (empty_len w h).2
  · simp
end Go.Proofs.Ytaebgjdaoloceaa.PureD
