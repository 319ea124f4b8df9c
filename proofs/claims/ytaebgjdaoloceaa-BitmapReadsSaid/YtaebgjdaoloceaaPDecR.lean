/- A lemma file: the page of bytes: the reference's Decode comes to the same function. No condition. -/
import Derived.Test.YtaebgjdaoloceaaPDec
import Derived.Test.YtaebgjdaoloceaaQBmpRx6
namespace Go.Proofs.Ytaebgjdaoloceaa.PureB
open Go.RowKit Go.Proofs.Ytaebgjdaoloceaa.QBmpR Go.Proofs.YtaebgjdaoloceaaW.PrintWords Go.Proofs.YtaebgjdaoloceaaV Go.Proofs.Ytaebgjdaoloceaa.Pure
theorem rplace_f (x y w h : Int) : dioramaref19_place.f x y w h [] = some (if placeS x y w h = true then 0 else 1) := by
  unfold dioramaref19_place.f placeS inB
  rw [in_r, in_r, in_r, in_r]
  simp only [Option.bind_some]
  cases (decide (0 ≤ x) && decide (x ≤ 999)) <;> cases (decide (0 ≤ y) && decide (y ≤ 999)) <;> cases (decide (1 ≤ w) && decide (w ≤ 64)) <;> cases (decide (1 ≤ h) && decide (h ≤ 64)) <;> rfl
theorem wr2 {a b : Int} (ha : 0 ≤ a ∧ a ≤ 255) (hb : 0 ≤ b ∧ b ≤ 255) : wrap64 ((wrap64 ((wrap64 a) * 256)) + (wrap64 b)) = a * 256 + b := by
  rw [w64 (x := a) (by omega) (by omega), w64 (x := a * 256) (by omega) (by omega), w64 (x := b) (by omega) (by omega), w64 (by omega) (by omega)]
/-- A patch that the reference reads, and how many bytes it has. -/
def rpS (u : List Int) : Int × Int × Int × Int × List Int × Int × Int :=
  if u.length < 8 then (0, 0, 0, 0, [], 0, 3) else if placeS (w2 u 0) (w2 u 2) (rd u 4) (rd u 5) = true then (if u.length - 8 < (w2 u 6).toNat then (w2 u 0, w2 u 2, rd u 4, rd u 5, [], 0, 3) else
    (w2 u 0, w2 u 2, rd u 4, rd u 5, (pixF ((u.drop 8).take (w2 u 6).toNat) (rd u 4) (rd u 5)).1, 8 + w2 u 6, (pixF ((u.drop 8).take (w2 u 6).toNat) (rd u 4) (rd u 5)).2)) else (w2 u 0, w2 u 2, rd u 4, rd u 5, [], 0, 1)
theorem rp_ev {u : List Int} (hb : Bs u) (hl : u.length ≤ 100000) : Ev (fun k => dioramaref19_patch.f k u) (rpS u) := by
  unfold dioramaref19_patch.f rpS
  by_cases h8 : u.length < 8
  · simp only [if_pos (show (u.length : Int) < 8 by omega), if_pos h8]; exact Ev.now _
  · have c : ∀ i : Int, i < 8 → i < (u.length : Int) := fun i hi => by omega
    simp only [if_neg (show ¬ (u.length : Int) < 8 by omega), if_neg h8, if_pos (c 0 (by decide)), if_pos (c 1 (by decide)), if_pos (c 2 (by decide)), if_pos (c 3 (by decide)), if_pos (c 4 (by decide)), if_pos (c 5 (by decide)), if_pos (c 6 (by decide)), if_pos (c 7 (by decide))]
    rw [wr2 (hb.rd 0) (hb.rd 1), wr2 (hb.rd 2) (hb.rd 3), wr2 (hb.rd 6) (hb.rd 7)]
    have b4 := hb.rd 4
    have b5 := hb.rd 5
    rw [w64 (x := rd u 4) (by omega) (by omega), w64 (x := rd u 5) (by omega) (by omega)]
    have f0 : rd u 0 * 256 + rd u 1 = w2 u 0 := rfl
    have f2 : rd u 2 * 256 + rd u 3 = w2 u 2 := rfl
    have f6 : rd u 6 * 256 + rd u 7 = w2 u 6 := rfl
    rw [f0, f2, f6]
    have hw := w2_in hb 6
    refine Ev.bind (by rw [rplace_f]; exact Ev.now _) ?_
    by_cases hp : placeS (w2 u 0) (w2 u 2) (rd u 4) (rd u 5) = true
    · simp only [if_pos hp, if_true]
      rw [w64 (x := (u.length : Int) - 8) (by omega) (by omega)]
      by_cases hn : u.length - 8 < (w2 u 6).toNat
      · simp only [if_pos hn, if_pos (show w2 u 6 > (u.length : Int) - 8 by omega)]; exact Ev.now _
      · simp only [if_neg hn, if_neg (show ¬ w2 u 6 > (u.length : Int) - 8 by omega)]
        rw [w64 (x := 8 + w2 u 6) (by omega) (by omega)]
        simp only [if_pos (show (8 : Int) ≤ 8 + w2 u 6 by omega), if_pos (show 8 + w2 u 6 ≤ (u.length : Int) by omega)]
        have e : (u.take (8 + w2 u 6).toNat).drop 8 = (u.drop 8).take (w2 u 6).toNat := by
          rw [List.drop_take, show (8 + w2 u 6).toNat - 8 = (w2 u 6).toNat by omega]
        rw [e]
        refine Ev.bind (ev_rpix (by rw [List.length_take, List.length_drop]; omega) ((hb.drop 8).take _)) ?_
        exact Ev.now _
    · simp only [if_neg hp, if_neg (show ¬ (1 : Int) = 0 by decide)]; exact Ev.now _
theorem rpat_ev {B : List Int} {cl : Bool} {pal : List Int} {x13 : Int} (hb : Bs B) (hl : B.length ≤ 100000) (h13 : x13 ≤ 255) : ∀ (m : Nat) (i : Int) (p : Nat) (acc : List S91), 0 ≤ i → i + m = x13 → p ≤ B.length → acc.length ≤ i.toNat →
    Ev (fun k => dioramaref19_Decode.l1 k B (p : Int) x13 i cl pal acc) (endS cl pal (patS m (B.drop p) acc))
  | 0, i, p, acc, h0, hm, hp, ha => by
    rw [patS]
    unfold endS
    simp only [if_true, List.length_drop]
    by_cases h : p < B.length
    · refine Ev.step (f := fun _ => some (false, [], [], 4)) (fun k => ?_) (by rw [if_pos (by omega)]; exact Ev.now _)
      simp only [dioramaref19_Decode.l1]
      rw [if_neg (by omega), if_pos (by omega)]
    · refine Ev.step (f := fun _ => some (cl, pal, acc, 0)) (fun k => ?_) (by rw [if_neg (by omega)]; exact Ev.now _)
      simp only [dioramaref19_Decode.l1]
      rw [if_neg (by omega), if_neg (by omega)]
  | m + 1, i, p, acc, h0, hm, hp, ha => by
    have hbu := hb.drop p
    have hlu : (B.drop p).length = B.length - p := List.length_drop
    refine Ev.step (f := fun k => (dioramaref19_patch.f k (B.drop p)).bind fun bt269 => (if bt269.2.2.2.2.2.2 = 0 then (if acc.length < 2513169434916 then (dioramaref19_Decode.l1 k B (wrap64 ((p : Int) + bt269.2.2.2.2.2.1)) x13 (wrap64 (i + 1)) cl pal (acc ++ [(⟨bt269.1, bt269.2.1, bt269.2.2.1, bt269.2.2.2.1, bt269.2.2.2.2.1⟩ : S91)])) else none) else some (false, ([] : List Int), ([] : List S91), bt269.2.2.2.2.2.2))) (fun k => ?_) ?_
    · simp only [dioramaref19_Decode.l1]
      rw [if_pos (by omega), if_pos (by omega), if_pos (by omega), Int.toNat_natCast]
    · refine Ev.bind (rp_ev hbu (by omega)) ?_
      unfold rpS
      rw [patS]
      by_cases h8 : (B.drop p).length < 8
      · simp only [if_pos h8, if_neg (show ¬ (3 : Int) = 0 by decide)]; exact Ev.now _
      · simp only [if_neg h8]
        have hw := w2_in hbu 6
        by_cases hpl : placeS (w2 (B.drop p) 0) (w2 (B.drop p) 2) (rd (B.drop p) 4) (rd (B.drop p) 5) = true
        · simp only [if_pos hpl]
          by_cases hn : (B.drop p).length - 8 < (w2 (B.drop p) 6).toNat
          · simp only [if_pos hn, if_neg (show ¬ (3 : Int) = 0 by decide)]; exact Ev.now _
          · simp only [if_neg hn]
            by_cases hz : (pixF (((B.drop p).drop 8).take (w2 (B.drop p) 6).toNat) (rd (B.drop p) 4) (rd (B.drop p) 5)).2 = 0
            · simp only [if_pos hz, if_pos (show acc.length < 2513169434916 by omega)]
              have ih := rpat_ev (cl := cl) (pal := pal) hb hl h13 m (i + 1) (p + (8 + (w2 (B.drop p) 6).toNat)) (acc ++ [⟨w2 (B.drop p) 0, w2 (B.drop p) 2, rd (B.drop p) 4, rd (B.drop p) 5, (pixF (((B.drop p).drop 8).take (w2 (B.drop p) 6).toNat) (rd (B.drop p) 4) (rd (B.drop p) 5)).1⟩]) (by omega) (by omega) (by omega) (by simp; omega)
              rw [w64 (x := i + 1) (by omega) (by omega), show wrap64 ((p : Int) + (8 + w2 (B.drop p) 6)) = ((p + (8 + (w2 (B.drop p) 6).toNat) : Nat) : Int) by rw [w64 (by omega) (by omega)]; omega]
              rw [List.drop_drop, List.drop_drop]
              rw [show p + (8 + (w2 (B.drop p) 6).toNat) = p + 8 + (w2 (B.drop p) 6).toNat by omega] at ih ⊢
              rw [List.drop_drop] at ih
              exact ih
            · simp only [if_neg hz]
              rw [show endS cl pal ([], [], (pixF (((B.drop p).drop 8).take (w2 (B.drop p) 6).toNat) (rd (B.drop p) 4) (rd (B.drop p) 5)).2) = _ from if_neg hz]
              exact Ev.now _
        · simp only [if_neg hpl, if_neg (show ¬ (1 : Int) = 0 by decide)]; exact Ev.now _
theorem intS_at {B : List Int} (hb : Bs B) (p : Nat) (hp : p ≤ B.length) : intS B (p : Int) 3 = if (B.drop p).length < 3 then (0, 3) else (numS ((B.drop p).take 3), 0) := by
  have hlu : (B.drop p).length = B.length - p := List.length_drop
  unfold intS
  rw [if_neg (by omega)]
  by_cases h : (B.drop p).length < 3
  · rw [if_pos h, if_pos (by omega)]
  · rw [if_neg h, if_neg (by omega)]
    have e : (B.take ((p : Int) + 3).toNat).drop (p : Int).toNat = (B.drop p).take 3 := by
      rw [Int.toNat_natCast, List.drop_take, show ((p : Int) + 3).toNat - p = 3 by omega]
    rw [e]
    have hbd := numS_bound ((B.drop p).take 3) ((hb.drop p).take 3)
    rw [List.length_take, show min 3 (B.drop p).length = 3 by omega] at hbd
    have := pow4 (n := 3) (by omega)
    rw [if_neg (by omega)]
theorem rpal_ev {B : List Int} {cl : Bool} {x8 : Int} (hb : Bs B) (hl : B.length ≤ 100000) (h8 : x8 ≤ 16) : ∀ (m : Nat) (i : Int) (p : Nat) (acc : List Int), 0 ≤ i → i + m = x8 → p ≤ B.length → acc.length ≤ i.toNat →
    Ev (fun k => dioramaref19_Decode.l0 k B x8 (p : Int) i cl acc) (palS cl m (B.drop p) acc)
  | 0, i, p, acc, h0, hm, hp, ha => by
    have hlu : (B.drop p).length = B.length - p := List.length_drop
    rw [palS]
    by_cases h : B.length ≤ p
    · rw [List.drop_eq_nil_of_le h, tailS]
      refine Ev.step (f := fun _ => some (false, [], [], 3)) (fun k => ?_) (Ev.now _)
      simp only [dioramaref19_Decode.l0]
      rw [if_neg (by omega), if_pos (by omega)]
    · obtain ⟨c, t, hct⟩ : ∃ c t, B.drop p = c :: t := by
        cases hq : B.drop p with
        | nil => rw [hq] at hlu; simp at hlu; omega
        | cons c t => exact ⟨c, t, rfl⟩
      have hrd : rd B (p : Int) = c := rd_drop hct
      have hc : 0 ≤ c ∧ c ≤ 255 := by have := hb.rd (p : Int); rwa [hrd] at this
      rw [hct, tailS]
      by_cases h9 : c > 8
      · rw [if_pos h9]
        refine Ev.step (f := fun _ => some (false, [], [], 2)) (fun k => ?_) (Ev.now _)
        simp only [dioramaref19_Decode.l0]
        rw [if_neg (by omega), if_neg (by omega), if_pos (by omega), if_pos (by omega), hrd, w64 (x := c) (by omega) (by omega), if_pos h9]
      · rw [if_neg h9]
        have ih := rpat_ev (cl := cl) (pal := acc) (x13 := c) hb hl (by omega) c.toNat 0 (p + 1) [] (by omega) (by omega) (by omega) (by simp)
        rw [(drop_at hct).2.1] at ih
        refine Ev.step (fun k => ?_) ih
        simp only [dioramaref19_Decode.l0]
        rw [if_neg (by omega), if_neg (by omega), if_pos (by omega), if_pos (by omega), hrd, w64 (x := c) (by omega) (by omega), if_neg h9, w_next (by omega)]
  | m + 1, i, p, acc, h0, hm, hp, ha => by
    have hlu : (B.drop p).length = B.length - p := List.length_drop
    refine Ev.step (f := fun k => (dioramaref01_Int.f k B (p : Int) 3).bind fun bt => (if bt.2 = 0 then (if acc.length < 17592186044416 then (dioramaref19_Decode.l0 k B x8 (wrap64 ((p : Int) + 3)) (wrap64 (i + 1)) cl (acc ++ [bt.1])) else none) else some (false, ([] : List Int), ([] : List S91), bt.2))) (fun k => ?_) ?_
    · simp only [dioramaref19_Decode.l0]
      rw [if_pos (by omega)]
    · refine Ev.bind (rint_ev (by omega) hb) ?_
      rw [intS_at hb p hp, palS]
      by_cases h3 : (B.drop p).length < 3
      · simp only [if_pos h3, if_neg (show ¬ (3 : Int) = 0 by decide)]; exact Ev.now _
      · simp only [if_neg h3, if_true, if_pos (show acc.length < 17592186044416 by omega)]
        have ih := rpal_ev (cl := cl) hb hl h8 m (i + 1) (p + 3) (acc ++ [numS ((B.drop p).take 3)]) (by omega) (by omega) (by omega) (by simp; omega)
        rw [w64 (x := i + 1) (by omega) (by omega), show wrap64 ((p : Int) + 3) = ((p + 3 : Nat) : Int) by rw [w64 (by omega) (by omega)]; omega, List.drop_drop]
        exact ih
/-- The reference's Decode. -/
theorem rdec_ev {l : List Int} (hb : Bs l) (hl : l.length ≤ 100000) : Ev (fun k => dioramaref19_Decode.f k l) (decS l) := by
  unfold dioramaref19_Decode.f decS
  by_cases h7 : l.length < 7
  · simp only [if_pos h7, if_pos (show (l.length : Int) < 7 by omega)]; exact Ev.now _
  · simp only [if_neg h7, if_neg (show ¬ (l.length : Int) < 7 by omega)]
    rw [show wrap64 ((l.length : Int) - 4) = ((l.length - 4 : Nat) : Int) by rw [w64 (by omega) (by omega)]; omega]
    obtain ⟨B, hB⟩ : ∃ B, B = l.take (l.length - 4) := ⟨_, rfl⟩
    have hBl : B.length = l.length - 4 := by rw [hB, List.length_take]; omega
    have hBb : Bs B := by rw [hB]; exact hb.take _
    refine Ev.bind (rint_ev (by omega) hb) ?_
    rw [intS_end hb (by omega)]
    simp only [if_pos (show (0 : Int) ≤ ((l.length - 4 : Nat) : Int) by omega), if_pos (show ((l.length - 4 : Nat) : Int) ≤ (l.length : Int) by omega), Int.toNat_natCast, Option.bind_some]
    rw [← hB]
    refine Ev.bind (rsum_ev (by omega) hBb) ?_
    have hs := sumS_in hBb
    rw [w64 (x := sumS B) (by omega) (by omega)]
    by_cases hq : numS (l.drop (l.length - 4)) = sumS B
    · simp only [if_pos hq, if_pos (show (0 : Int) < (B.length : Int) by omega), if_pos (show (1 : Int) < (B.length : Int) by omega)]
      have h0 := hBb.rd 0
      have h1 := hBb.rd 1
      rw [w64 (x := rd B 1) (by omega) (by omega)]
      unfold bodyS
      by_cases c1 : rd B 0 > 1
      · simp only [if_pos c1]; exact Ev.now _
      · simp only [if_neg c1]
        by_cases c2 : rd B 1 > 16
        · simp only [if_pos c2]; exact Ev.now _
        · simp only [if_neg c2]
          exact rpal_ev hBb (by omega) (by omega) (rd B 1).toNat 0 2 [] (by omega) (by omega) (by omega) (by simp)
    · simp only [if_neg hq]; exact Ev.now _
end Go.Proofs.Ytaebgjdaoloceaa.PureB
