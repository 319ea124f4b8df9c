/- A lemma file: the page of a page's bytes is the page. No condition. -/
import Derived.Test.YtaebgjdaoloceaaPEncR
namespace Go.Proofs.Ytaebgjdaoloceaa.PureB
open Go.RowKit Go.Proofs.Ytaebgjdaoloceaa.QBmpP Go.Proofs.YtaebgjdaoloceaaW.PrintWords Go.Proofs.YtaebgjdaoloceaaW.PrintMore Go.Proofs.YtaebgjdaoloceaaV Go.Proofs.Ytaebgjdaoloceaa.Pure Go.Proofs.Ytaebgjdaoloceaa.PureD
theorem numS_big : ∀ (n : Nat) (v : Int), 0 ≤ v → v < 256 ^ n → numS (bigS v n) = v
  | 0, v, h0, h1 => by rw [Int.pow_zero] at h1; simp [bigS, numS]; omega
  | n + 1, v, h0, h1 => by
    rw [Int.pow_succ] at h1
    rw [bigS, numS_snoc, numS_big n (v / 256) (by omega) (by omega)]
    omega
theorem pix_run {l : List Int} {wide : Int} (h : (runF l wide).2 = 0) : (1 ≤ wide ∧ wide ≤ 64) ∧ pixF (runF l wide).1 wide ((l.length / wide.toNat : Nat) : Int) = (l, 0) := by
  unfold runF at h ⊢
  split at h
  · rename_i hw
    rw [if_pos hw]
    split at h
    · rename_i hd
      rw [if_pos hd]
      refine ⟨hw.1, ?_⟩
      have e : l.length = l.length / wide.toNat * wide.toNat := by have := Nat.div_add_mod l.length wide.toNat; rw [Nat.mul_comm] at this; omega
      have hz : l.length / wide.toNat = 0 → l.length = 0 := fun q => by rw [q] at e; simpa using e
      have := dec_rows wide.toNat (by omega) (l.length / wide.toNat) l [] e (bad_not hw.2)
      rw [List.append_nil] at this
      obtain ⟨q, hq⟩ : ∃ q, l.length / wide.toNat = q := ⟨_, rfl⟩
      rw [hq] at this hz hd ⊢
      rw [pixF, if_pos ⟨hw.1, by omega⟩, Int.toNat_natCast]
      simp only
      rw [this]
      rfl
    · simp at h
  · simp at h
theorem bad_of {l : List Int} (h : ∀ c ∈ l, 0 ≤ c ∧ c ≤ 15) : bad l = false := by
  unfold bad
  rw [List.any_eq_false]
  intro c hc
  have := h c hc
  simp [this.1, this.2]
theorem run_valid {x : S91} (h : patchE x = 0) : (runF x.f4 x.f2).2 = 0 ∧ ((x.f4.length / x.f2.toNat : Nat) : Int) = x.f3 := by
  obtain ⟨o1, o2, o3⟩ := patchE_ok h
  have hp := place_ok o1
  obtain ⟨w, hw⟩ := Int.eq_ofNat_of_zero_le (show 0 ≤ x.f2 by omega)
  obtain ⟨q, hq⟩ := Int.eq_ofNat_of_zero_le (show 0 ≤ x.f3 by omega)
  rw [hw, hq] at o3
  have hl : x.f4.length = w * q := by exact_mod_cast o3
  have hw1 : 1 ≤ w ∧ w ≤ 64 := by omega
  have hq1 : 1 ≤ q ∧ q ≤ 64 := by omega
  have hd : w * q / w = q := Nat.mul_div_cancel_left q (by omega)
  have hm : w * q % w = 0 := Nat.mul_mod_right w q
  have hpos : 1 ≤ w * q := Nat.mul_pos (by omega) (by omega)
  refine ⟨?_, ?_⟩
  · unfold runF
    rw [hw, Int.toNat_natCast, hl, hd, hm, if_pos ⟨by omega, bad_of o2⟩, if_pos ⟨hpos, rfl, hq1.2⟩]
  · rw [hw, hq, Int.toNat_natCast, hl, hd]
theorem big2 {v : Int} : bigS v 2 = [v / 256 % 256, v % 256] := rfl
theorem big3 {v : Int} : bigS v 3 = [v / 256 / 256 % 256, v / 256 % 256, v % 256] := rfl
theorem two_val {v : Int} (h0 : 0 ≤ v) (h1 : v ≤ 65535) : v / 256 % 256 * 256 + v % 256 = v := by omega
theorem pat_all : ∀ (t acc : List S91), (∀ x ∈ t, patchE x = 0) → patS t.length (t.flatMap pchB) acc = (acc ++ t, [], 0)
  | [], acc, _ => by rw [List.length_nil, patS, List.append_nil]; rfl
  | x :: t, acc, h => by
    have hx := h x (by simp)
    obtain ⟨o1, o2, o3⟩ := patchE_ok hx
    have hp := place_ok o1
    have h5 := patchE_len hx
    have hrl := runF_len (l := x.f4) (w := x.f2) (by omega)
    obtain ⟨r1, r2⟩ := run_valid hx
    have hpx := (pix_run r1).2
    rw [r2] at hpx
    have ih := pat_all t (acc ++ [x]) (fun y hy => h y (by simp [hy]))
    have epb : pchB x = bigS x.f0 2 ++ bigS x.f1 2 ++ [x.f2 % 256, x.f3 % 256] ++ bigS ((runF x.f4 x.f2).1.length : Int) 2 ++ (runF x.f4 x.f2).1 := by
      unfold pchB
      rw [put2 (by omega) (by omega), put2 (by omega) (by omega), put2 (by omega) (by omega)]
    rw [List.flatMap_cons, epb]
    generalize (runF x.f4 x.f2).1 = R at hpx hrl
    generalize t.flatMap pchB = v at ih
    have eu : bigS x.f0 2 ++ bigS x.f1 2 ++ [x.f2 % 256, x.f3 % 256] ++ bigS (R.length : Int) 2 ++ R ++ v = x.f0 / 256 % 256 :: x.f0 % 256 :: x.f1 / 256 % 256 :: x.f1 % 256 :: x.f2 % 256 :: x.f3 % 256 :: (R.length : Int) / 256 % 256 :: (R.length : Int) % 256 :: (R ++ v) := by
      rw [big2, big2, big2]; simp
    rw [eu]
    obtain ⟨u, hu⟩ : ∃ u, u = x.f0 / 256 % 256 :: x.f0 % 256 :: x.f1 / 256 % 256 :: x.f1 % 256 :: x.f2 % 256 :: x.f3 % 256 :: (R.length : Int) / 256 % 256 :: (R.length : Int) % 256 :: (R ++ v) := ⟨_, rfl⟩
    have g0 : w2 u 0 = x.f0 := by rw [hu]; exact two_val (by omega) (by omega)
    have g2 : w2 u 2 = x.f1 := by rw [hu]; exact two_val (by omega) (by omega)
    have g4 : rd u 4 = x.f2 := by rw [hu]; show x.f2 % 256 = x.f2; omega
    have g5 : rd u 5 = x.f3 := by rw [hu]; show x.f3 % 256 = x.f3; omega
    have g6 : w2 u 6 = (R.length : Int) := by rw [hu]; exact two_val (by omega) (by omega)
    have gd : u.drop 8 = R ++ v := by rw [hu]; rfl
    have gl : u.length = 8 + (R ++ v).length := by rw [hu]; simp only [List.length_cons]; omega
    rw [← hu, List.length_cons, patS, g0, g2, g4, g5, g6, gd, gl, Int.toNat_natCast, List.take_left, List.drop_left, hpx, if_neg (by omega), if_pos (by exact o1), if_neg (by rw [List.length_append]; omega), if_pos rfl, ih]
    simp
theorem pal_all {cl : Bool} {R : List Int} : ∀ (t acc : List Int), (∀ c ∈ t, 0 ≤ c ∧ c ≤ 16777215) → palS cl t.length (palB t ++ R) acc = tailS cl (acc ++ t) R
  | [], acc, _ => by rw [List.length_nil, palS, List.append_nil]; rfl
  | c :: t, acc, h => by
    have hc := h c (by simp)
    have ih := pal_all (cl := cl) (R := R) t (acc ++ [c]) (fun y hy => h y (by simp [hy]))
    have e : palB (c :: t) ++ R = c / 256 / 256 % 256 :: c / 256 % 256 :: c % 256 :: (palB t ++ R) := by
      simp [palB, put3 hc.1 hc.2, big3]
    have en : numS [c / 256 / 256 % 256, c / 256 % 256, c % 256] = c := by
      rw [(numS_rd _ _ _).2.2]; omega
    rw [e, List.length_cons, palS, if_neg (by simp only [List.length_cons]; omega)]
    rw [show (c / 256 / 256 % 256 :: c / 256 % 256 :: c % 256 :: (palB t ++ R)).take 3 = [c / 256 / 256 % 256, c / 256 % 256, c % 256] from rfl, show (c / 256 / 256 % 256 :: c / 256 % 256 :: c % 256 :: (palB t ++ R)).drop 3 = palB t ++ R from rfl, en, ih]
    simp
/-- The page of a page's bytes. -/
theorem dec_enc {cl : Bool} {pal : List Int} {pp : List S91} (h : checkF pal pp = 0) : decS (encF cl pal pp).1 = (cl, pal, pp, 0) := by
  obtain ⟨⟨h16, h8⟩, hq, hv⟩ := checkF_ok h
  unfold encF
  rw [if_pos h]
  have hb := headB_in cl pal pp
  have hs := sumS_in hb
  have hl : 3 ≤ (headB cl pal pp).length := by
    simp only [headB, List.length_append, List.length_cons, List.length_nil]; omega
  have body : bodyS (headB cl pal pp) = (cl, pal, pp, 0) := by
    have e : headB cl pal pp = (if cl = true then 1 else 0) :: (pal.length : Int) % 256 :: (palB pal ++ ((pp.length : Int) % 256 :: pp.flatMap pchB)) := by simp [headB]
    rw [e]
    unfold bodyS
    have e0 : rd ((if cl = true then 1 else 0) :: (pal.length : Int) % 256 :: (palB pal ++ ((pp.length : Int) % 256 :: pp.flatMap pchB))) 0 = if cl = true then 1 else 0 := id rfl
    have e1 : rd ((if cl = true then 1 else 0) :: (pal.length : Int) % 256 :: (palB pal ++ ((pp.length : Int) % 256 :: pp.flatMap pchB))) 1 = (pal.length : Int) % 256 := id rfl
    have e2 : ((if cl = true then (1 : Int) else 0) :: (pal.length : Int) % 256 :: (palB pal ++ ((pp.length : Int) % 256 :: pp.flatMap pchB))).drop 2 = palB pal ++ ((pp.length : Int) % 256 :: pp.flatMap pchB) := rfl
    have e3 : ((if cl = true then (1 : Int) else 0) == 1) = cl := by cases cl <;> rfl
    have e4 : ((pal.length : Int) % 256).toNat = pal.length := by omega
    have e5 : ((pp.length : Int) % 256).toNat = pp.length := by omega
    rw [e0, e1, e2, e3, e4, if_neg (by split <;> omega), if_neg (by omega), pal_all pal [] hq, tailS, if_neg (by omega), e5, pat_all pp [] hv]
    simp [endS]
  show decS (headB cl pal pp ++ (putS (sumS (headB cl pal pp)) 4).1) = _
  rw [put4 hs.1 hs.2]
  generalize headB cl pal pp = X at hb hs hl body
  unfold decS
  have hn := numS_big 4 (sumS X) hs.1 (by have : (256 : Int) ^ 4 = 4294967296 := by decide
                                          omega)
  have e : (X ++ bigS (sumS X) 4).length - 4 = X.length := by rw [List.length_append, bigS_length]; omega
  rw [e, List.drop_left, List.take_left, if_neg (by rw [List.length_append, bigS_length]; omega), if_pos hn, body]
end Go.Proofs.Ytaebgjdaoloceaa.PureB
