/- Part of a proof: functions of the program as Lean functions, and that the machine's calls come to them. Made by a program of this session (wip/mp). -/
import Derived.Test.YtaebgjdaoloceaaQBmpFx0
import Derived.Test.YtaebgjdaoloceaaQBmpFx1
namespace Go.Proofs.Ytaebgjdaoloceaa.QBmpF
open Go.RowKit Go.Proofs.YtaebgjdaoloceaaV Go.Proofs.YtaebgjdaoloceaaW.PrintWords Go.Proofs.YtaebgjdaoloceaaW.PrintLast Go.Proofs.YtaebgjdaoloceaaW.PrintMore
attribute [local go_sem] max2_int min2_int max_two min_two max_three min_three max_four min_four   -- for this text's walks alone
set_option linter.unusedVariables false
set_option linter.unusedSimpArgs false

/-! ### bitmap_wipe: function 54 -/
def bitmap_wipe.l0 : Nat → List Int → Int → Int → Option (List Int)
  | 0, _, _, _ => none
  | k + 1, x0, x5, x6 => if x6 < x5 then (if 0 ≤ x6 then (if x6 < (x0.length : Int) then (bitmap_wipe.l0 k (x0.set (x6 : Int).toNat (-1)) x5 (wrap64 (x6 + 1))) else (none)) else (none)) else (some x0)
def bitmap_wipe.f (k : Nat) (l0 : List Int) : Option (List Int) := bitmap_wipe.l0 k l0 (l0.length : Int) 0
theorem bitmap_wipe.mono_l : ∀ k, (∀ y0 y1 y2, LeO (bitmap_wipe.l0 k y0 y1 y2) (bitmap_wipe.l0 (k + 1) y0 y1 y2))
  | 0 => fun _ _ _ r h => by simp [bitmap_wipe.l0] at h
  | k + 1 => by
    have ih0 := bitmap_wipe.mono_l k
    · intro y0 y1 y2
      unfold bitmap_wipe.l0
      repeat' first
      | (with_reducible exact ih0 _ _ _)
      | (with_reducible exact LeO.refl _)
      | (with_reducible exact LeO.none _)
      | (with_reducible refine LeO.ite ?_ ?_)
      | (with_reducible refine LeO.bind ?_ (fun _ => ?_))
      | exact ih0 _ _ _
      | exact LeO.none _
      | refine LeO.ite ?_ ?_
      | refine LeO.bind ?_ (fun _ => ?_)
theorem bitmap_wipe.mono : ∀ a0 k, LeO (bitmap_wipe.f k a0) (bitmap_wipe.f (k + 1) a0) := by
  intro a0 k
  have ih0 := bitmap_wipe.mono_l k
  unfold bitmap_wipe.f
  repeat' first
      | (with_reducible exact ih0 _ _ _)
      | (with_reducible exact LeO.refl _)
      | (with_reducible exact LeO.none _)
      | (with_reducible refine LeO.ite ?_ ?_)
      | (with_reducible refine LeO.bind ?_ (fun _ => ?_))
      | exact ih0 _ _ _
      | exact LeO.none _
      | refine LeO.ite ?_ ?_
      | refine LeO.bind ?_ (fun _ => ?_)
variable {P : Program} {W w0 : World} {base n cap g : Nat} {ok S : Nat → Prop} {x : List Int}
theorem wipe_set : ∀ (m i : Nat) {W : World} {x : List Int}, (Kd.int .i64).R 3 W base ok (.slice (some ⟨g, 0, none⟩) n cap) x → x.length = i + m → i + m = n → (Kd.int .i64).R 3 (W.setCells g i (List.replicate m (.int .i64 0))) base ok (.slice (some ⟨g, 0, none⟩) n cap) (x.take i ++ List.replicate m 0) ∧ W.grownBy (W.setCells g i (List.replicate m (.int .i64 0))) (some g)
  | 0, i, W, x, h, hx, hn => by
    refine ⟨?_, World.grownBy.refl _ _⟩
    rw [List.replicate_zero, List.replicate_zero, List.append_nil, List.take_of_length_le (by omega)]
    exact h
  | m + 1, i, W, x, h, hx, hn => by
    obtain ⟨h1, h2⟩ := Kd.R_putg h (i : Int) 0
    rw [Int.toNat_natCast] at h1 h2
    obtain ⟨i1, i2⟩ := wipe_set m (i + 1) h1 (by simp; omega) (by omega)
    rw [List.replicate_succ, List.replicate_succ]
    refine ⟨?_, h2.trans i2⟩
    have e : (x.set i 0).take (i + 1) ++ List.replicate m (0 : Int) = x.take i ++ 0 :: List.replicate m 0 := by
      rw [List.take_add_one, List.getElem?_set_self (by omega), List.take_set_of_le (Nat.le_refl i)]
      simp
    rw [← e]
    exact i1
/-- clear of a row in a block of its own. -/
theorem wipe_clear {t : TypeId} (ht : P.underlying t = some (.slice 3)) (hv : ∀ w, (zeroValue 3).run P w = .ok (.int .i64 0) w) {A : Option Addr} (h : (Kd.int .i64).R 3 W base ok (.slice A x.length cap) x) (hB : Below base w0 W) (hs : base ≤ W.heap.size) (hS : ∀ k, ok k → S k ∨ W.heap.size ≤ k) :
    ∃ W1, (∀ ty, (Builtin.clear_ #[t] ty #[.slice A x.length cap]).run P W = .ok (.tuple #[]) W1) ∧ (Kd.int .i64).R 3 W1 base ok (.slice A x.length cap) (List.replicate x.length 0) ∧ Below base w0 W1 ∧ Kept W W1 S := by
  by_cases hz : x.length = 0
  · refine ⟨W, fun ty => ?_, ?_, hB, Kept.refl _ _⟩
    · rw [hz]
      cases A with
      | none => simp [Builtin.clear_, run_underlying ht]
      | some a => simp [Builtin.clear_, run_underlying ht]
    · have e : x = [] := List.eq_nil_of_length_eq_zero hz
      subst e
      exact h
  · obtain ⟨g, cap', e, hg1, hg2, cells, hc⟩ := Kd.R_form h (by omega)
    injection e with e1 e2 e3
    subst e1
    obtain ⟨r1, r2⟩ := wipe_set x.length 0 h (by omega) (by omega)
    have hown : ok g := h.1 _ rfl
    refine ⟨_, fun ty => ?_, by simpa using r1, hB.grown r2 hs (fun k hk => by injection hk with hk; omega), Kept.of_grown r2 (Kept.refl _ _) (fun k hk => by injection hk with hk; subst hk; exact hS _ hown)⟩
    exact Lib.run_clear_slice W t 3 ty (.int .i64 0) ht hv rfl rfl g 0 x.length cap (by omega) (fun j hj => by
      have := (Kd.R_celln 0 h (j : Int) (by omega) (by omega)).1
      rw [Int.toNat_natCast] at this
      rw [Nat.zero_add, this]; rfl) (fun j hj => by
      have := (Kd.R_celln 0 h (j : Int) (by omega) (by omega)).2
      rw [Int.toNat_natCast] at this
      rw [Nat.zero_add, this])
theorem wipe_l0 : ∀ (k : Nat) (x y : List Int) (n i : Nat), i ≤ 9223372036854775807 → x.take i = y.take i → x.length = n → y.length = n → ∀ {r}, bitmap_wipe.l0 k x (n : Int) (i : Int) = some r → bitmap_wipe.l0 k y (n : Int) (i : Int) = some r
  | 0, _, _, _, _, _, _, _, _, _, h => by simp [bitmap_wipe.l0] at h
  | k + 1, x, y, n, i, hi, ht, hx, hy, r, h => by
    rw [bitmap_wipe.l0] at h ⊢
    by_cases c : (i : Int) < (n : Int)
    · rw [if_pos c, if_pos (by omega), if_pos (by omega)] at h ⊢
      by_cases hw : (i : Int) + 1 ≤ 9223372036854775807
      · rw [show wrap64 ((i : Int) + 1) = ((i + 1 : Nat) : Int) by unfold wrap64; omega] at h ⊢
        rw [Int.toNat_natCast] at h ⊢
        refine wipe_l0 k _ _ n (i + 1) (by omega) ?_ (by simpa using hx) (by simpa using hy) h
        rw [List.take_add_one, List.take_add_one, List.getElem?_set_self (by omega), List.getElem?_set_self (by omega), List.take_set_of_le (Nat.le_refl i), List.take_set_of_le (Nat.le_refl i), ht]
      · have e : wrap64 ((i : Int) + 1) = -9223372036854775808 := by unfold wrap64; omega
        rw [e] at h
        cases k with
        | zero => simp [bitmap_wipe.l0] at h
        | succ k =>
          rw [bitmap_wipe.l0] at h
          rw [if_pos (by omega), if_neg (by omega)] at h
          simp at h
    · rw [if_neg c] at h ⊢
      rw [List.take_of_length_le (by omega), List.take_of_length_le (by omega)] at ht
      rw [← ht]; exact h

set_option maxHeartbeats 8000000 in
set_option maxRecDepth 100000 in
theorem bitmap_wipe.calls (k : Nat) (P0_ : Nat → Prop) (u9000_ : Value) (l0 : List Int) (r : List Int) (w0 w : World) (hB : Below w0.heap.size w0 w) (ho0 : Kd.R (Kd.int .i64) 3 w w0.heap.size P0_ u9000_ l0) (h : bitmap_wipe.f k l0 = some r) :
    Calls Try.prog 54 #[u9000_] w fun e w' => e = .returned (.tuple #[]) ∧ Kd.R (Kd.int .i64) 3 w' w0.heap.size (fun k_ => (P0_ k_ ∨ w.heap.size ≤ k_)) u9000_ r ∧ Below w0.heap.size w0 w' ∧ Kept w w' (fun k_ => P0_ k_) := by
  have HO0 := Aside0.mk (show Kd.R (Kd.int .i64) 3 w w0.heap.size (fun k_ => (P0_ k_ ∨ w.heap.size ≤ k_)) u9000_ l0 from Kd.R_mono ho0 (fun k_ hk => (.inl hk)))
  have HK := Aside0.mk (Kept.refl w (fun k_ => P0_ k_))
  have HW0 := Aside0.mk hB.size
  have HB := Aside0.mk hB
  clear hB
  have H : (bitmap_wipe.l0 k l0 (l0.length : Int) 0) = some r := h
  clear h
  have H' := Aside0.mk H
  clear H
  obtain ⟨Ao2, co2, eo2⟩ := Kd.R_slice HO0.out
  subst eo2
  obtain ⟨W1, hcl, hR1, hB1, hK1⟩ := wipe_clear (P := Try.prog) (t := 22) Try.underlying22 (fun w => by kernel_rfl) (S := fun k_ => P0_ k_) HO0.out HB.out HW0.out (fun k hk => hk)
  replace H' := Aside0.mk (wipe_l0 k l0 (List.replicate l0.length 0) l0.length 0 (by omega) (by simp) rfl (by simp) H'.out)
  replace HO0 := Aside0.mk hR1
  replace HB := Aside0.mk hB1
  replace HK := Aside0.mk hK1
  clear hR1 hB1 hK1 ho0
  go_enter Try.func54, Try.ntmps54
  go_wp2
  clear hcl
  go_loopg [6] k (fun kq v6 w' => ∃ (x0_1 : List Int) (x6_1 : Int), v6 = .int .i64 x6_1 ∧ Aside0 (bitmap_wipe.l0 kq x0_1 (l0.length : Int) x6_1 = some r) ∧ Aside0 (kq ≤ k) ∧ Aside0 (Kd.R (Kd.int .i64) 3 w' w0.heap.size (fun k_ => (P0_ k_ ∨ w.heap.size ≤ k_)) (.slice Ao2 l0.length co2) x0_1) ∧ Aside0 (Kept w w' (fun k_ => P0_ k_)) ∧ Aside0 (Below w0.heap.size w0 w'))
  case atStart => exact ⟨(List.replicate l0.length 0), (0), (by first | rfl | (simp; done) | (simp [*]; done) | (simp; kernel_rfl)), H', ⟨Nat.le_refl _⟩, ⟨by (with_reducible repeat (first | apply Kd.R_alloc | apply Kd.R_drewN | apply Kd.R_drew)); exact HO0.out⟩, ⟨by repeat (first | (with_reducible first | exact HK.out | apply Kept.alloc | apply Kept.drewN | apply Kept.drew) | exact HK.out)⟩, ⟨by repeat (first | (with_reducible first | exact HB.out | apply below_alloc | apply pw_below_drewN | apply below_drew1) | exact HB.out)⟩⟩
  case round =>
    clear H'
    try clear p2
    obtain ⟨x0_1, x6_1, rfl, HA, HK1, HO_0, HK, HB⟩ := hrel
    have hl0_1 := (Kd.R_reads' HO_0.out).1
    rw [hl0_1] at HO_0
    (try simp only [hl0_1])
    cases gk with
    | zero => exact absurd HA.out (by simp [bitmap_wipe.l0])
    | succ k1 =>
      have H := HA.out
      clear HA
      simp only [bitmap_wipe.l0] at H
      by_cases c3 : x6_1 < (l0.length : Int)
      · rw [if_pos c3] at H
        have c3b0 : decide (x6_1 < (l0.length : Int)) = true := decide_eq_true c3
        rw [hl0_1] at c3b0
        clear c3
        by_cases c4 : 0 ≤ x6_1
        · rw [if_pos c4] at H
          have c4b0 : decide (0 ≤ x6_1) = true := decide_eq_true c4
          clear c4
          by_cases c5 : x6_1 < (x0_1.length : Int)
          · rw [if_pos c5] at H
            have c5b0 : decide (x6_1 < (x0_1.length : Int)) = true := decide_eq_true c5
            clear c5
            obtain ⟨y192, hy192⟩ : ∃ y_ : List Int, y_ = (x0_1.set (x6_1 : Int).toNat (-1)) := ⟨_, rfl⟩
            replace H : (bitmap_wipe.l0 k1 y192 (l0.length : Int) (wrap64 (x6_1 + 1))) = some r := by first | (rw [hy192]; with_reducible exact H) | (have H2_ := (Option.bind_some _ _).symm.trans H; rw [hy192]; with_reducible exact H2_) | (have H2_ := (Option.bind_some _ _).symm.trans H; with_reducible exact H2_) | with_reducible exact H | (rw [hy192]; exact H) | exact H
            have Ny192 := Aside0.mk hy192
            clear hy192
            have H' := Aside0.mk H
            clear H
            have p6 : 0 ≤ (x6_1 : Int) := of_decide_eq_true (by first | (with_reducible assumption) | assumption)
            have q6 : (x6_1 : Int) < ((x0_1.length : Int) : Int) := of_decide_eq_true (by first | (with_reducible assumption) | assumption)
            obtain ⟨go6, co6, eo6, gb6, gl6, cl6, HG6⟩ := Kd.R_form HO_0.out (by omega)
            (first | cases eo6 | (injection eo6 with ea_ en_ ec_; (first | subst ea_ | (injection ea_ with ea_; subst ea_)); subst ec_; clear en_))
            have GB6 := Aside0.mk gb6
            have GG6 := Aside0.mk HG6
            clear gb6 gl6 HG6
            have HMgo6 := Aside0.mk (show (P0_ go6 ∨ w.heap.size ≤ go6) from (HO_0.out.1 _ rfl))
            obtain ⟨hx6_0, hf6_0⟩ := Kd.R_celln 0 HO_0.out (x6_1 : Int) p6 q6
            replace p6 := eq_true p6
            replace q6 := eq_true q6
            have HP7 := Kd.R_putg HO_0.out (x6_1 : Int) (-1)
            go_wp2_with (first | ((with_reducible refine gate_store (t := 3) (p := 11) rfl ?_); refine store_event (t := 3) (p := 11) (v := ?vo_w8) (w1 := (wr.setCell ⟨go6, (x6_1 : Int).toNat, none⟩ (.int .i64 (-1)))) ?hg ?ho ?hn ?hr ?_; (case ho => rfl); (case hg => rfl); (case hn => rfl); (case hr => first | (go_simp; done) | (go_simp; rfl)); intro w8 hw; have hg : wr.grownBy w8 (some go6) := (by rw [hw]; exact HP7.2); have hp_ : Kd.R (Kd.int .i64) 3 w8 w0.heap.size (fun k_ => (P0_ k_ ∨ w.heap.size ≤ k_)) (.slice (some ⟨go6, 0, none⟩) x0_1.length co2) y192 := (by rw [hw, Ny192.out]; exact HP7.1); clear HP7; have n0_ := Aside0.mk (hp_); have n1_ := Aside0.mk ((by rw [hw]; exact below_set (HB.out) GB6.out : Below w0.heap.size w0 w8)); have n2_ := Aside0.mk (Kept.of_grown (S := (fun k_ => P0_ k_)) hg (by repeat (first | (with_reducible first | exact HK.out | apply Kept.alloc | apply Kept.drewN | apply Kept.drew) | exact HK.out)) (fun k_ e_ => (HO_0.out.1 k_ e_))); clear HO_0; clear HB; clear HK; have HO_0 := n0_; have HB := n1_; have HK := n2_; clear n0_ n1_ n2_; clear hg hw hp_))
            (try simp only [← hl0_1])
            go_roundg k1
            case measure => have := HK1.out; omega
            case rel => exact ⟨(y192), (wrap64 (x6_1 + 1)), (by first | rfl | (simp; done) | (simp [*]; done) | (simp; kernel_rfl)), H', ⟨by have := HK1.out; omega⟩, ⟨by (try simp only [hl0_1]); (with_reducible repeat (first | apply Kd.R_alloc | apply Kd.R_drewN | apply Kd.R_drew)); exact HO_0.out⟩, ⟨by repeat (first | (with_reducible first | exact HK.out | apply Kept.alloc | apply Kept.drewN | apply Kept.drew) | exact HK.out)⟩, ⟨by repeat (first | (with_reducible first | exact HB.out | apply below_alloc | apply pw_below_drewN | apply below_drew1) | exact HB.out)⟩⟩
          · rw [if_neg c5] at H
            exact absurd H (by simp)
        · rw [if_neg c4] at H
          exact absurd H (by simp)
      · rw [if_neg c3] at H
        have c3b0 : decide (x6_1 < (l0.length : Int)) = false := decide_eq_false c3
        rw [hl0_1] at c3b0
        clear c3
        obtain rfl := Option.some.inj H
        go_wp2
        first | go_end0 | ((try simp only [Exit.inBlock, Exit.then]); refine bodyPost_ret (results_none rfl _ _ _) rfl ?_)
        exact ⟨by first | rfl | (simp [errW_none, errW_some] <;> rfl) | (simp [*, errW_none, errW_some] <;> rfl), (by first | exact (by (with_reducible repeat (first | apply Kd.R_alloc | apply Kd.R_drewN | apply Kd.R_drew)); exact HO_0.out) | (simp only [hl0_1]; exact (by (with_reducible repeat (first | apply Kd.R_alloc | apply Kd.R_drewN | apply Kd.R_drew)); exact HO_0.out))), by repeat (first | (with_reducible first | exact HB.out | apply below_alloc | apply pw_below_drewN | apply below_drew1) | exact HB.out), by repeat (first | (with_reducible first | exact HK.out | apply Kept.alloc | apply Kept.drewN | apply Kept.drew) | exact HK.out)⟩

/-! ### bitmap_Empty: function 23 -/
def bitmap_Empty.f (k : Nat) (a0 : Int) (a1 : Int) : Option (Int × Int × List Int × List Int × Int) := (bitmap_within.f a0 1 200).bind fun t194 => (if t194 = true then ((bitmap_within.f a1 1 200).bind fun t195 => (if t195 = true then (if 0 ≤ (wrap64 (a0 * a1)) then (if (wrap64 (a0 * a1) : Int).toNat ≤ 35184372088832 then ((bitmap_wipe.f k (List.replicate (wrap64 (a0 * a1) : Int).toNat 0)).bind fun t200 => (some (a0, a1, ([] : List Int), t200, 0))) else (none)) else (none)) else (some (0, 0, ([] : List Int), ([] : List Int), 1)))) else (some (0, 0, ([] : List Int), ([] : List Int), 1)))
theorem bitmap_Empty.mono:∀ a0 a1 k,LeO (bitmap_Empty.f k a0 a1) (bitmap_Empty.f (k+1) a0 a1):=by
 intro a0 a1 k
 unfold bitmap_Empty.f
 repeat' first
  | (with_reducible exact bitmap_wipe.mono _ _)
  | (with_reducible exact LeO.refl _)
  | (with_reducible exact LeO.none _)
  | (with_reducible refine LeO.ite ?_ ?_)
  | (with_reducible refine LeO.bind ?_ (fun _=>?_))
  | exact LeO.none _
  | refine LeO.ite ?_ ?_
  | refine LeO.bind ?_ (fun _=>?_)
set_option maxHeartbeats 8000000 in
set_option maxRecDepth 100000 in
theorem bitmap_Empty.calls (k:Nat) (a0:Int) (a1:Int) (r1:Int) (r2:Int) (r3:List Int) (r4:List Int) (r5:Int) (w:World) (h:bitmap_Empty.f k a0 a1=some (r1,r2,r3,r4,r5)) :
 Calls Try.prog 23 #[.int .i64 a0,.int .i64 a1] w fun e w'=>∃ v2_ v3_:Value,e=.returned (.tuple #[.agg #[.int .i64 r1,.int .i64 r2,v2_,v3_],.int .i64 r5])∧Kd.R (Kd.int .i64) 3 w' w.heap.size (fun k_=>some k_≠(v3_:Value).ownBlock) v2_ r3∧Kd.R (Kd.int .i64) 3 w' w.heap.size (fun k_=>some k_≠(v2_:Value).ownBlock) v3_ r4∧Below w.heap.size w w':=by
 have hu38:=Try.underlying38;have HB:=Aside0.mk (Below.refl w.heap.size w)
 have H:((bitmap_within.f a0 1 200).bind fun t194=>(if t194=true then ((bitmap_within.f a1 1 200).bind fun t195=>(if t195=true then (if 0≤(wrap64 (a0*a1)) then (if (wrap64 (a0*a1):Int).toNat≤35184372088832 then ((bitmap_wipe.f k (List.replicate (wrap64 (a0*a1):Int).toNat 0)).bind fun t200=>(some (a0,a1,([]:List Int),t200,0))) else (none)) else (none)) else (some (0,0,([]:List Int),([]:List Int),1)))) else (some (0,0,([]:List Int),([]:List Int),1))))=some (r1,r2,r3,r4,r5):=h
 clear h
 replace H:=Option.bind_eq_some_iff.mp H
 obtain ⟨t194,A30,H⟩:=H
 replace H:(if t194=true then ((bitmap_within.f a1 1 200).bind fun t195=>(if t195=true then (if 0≤(wrap64 (a0*a1)) then (if (wrap64 (a0*a1):Int).toNat≤35184372088832 then ((bitmap_wipe.f k (List.replicate (wrap64 (a0*a1):Int).toNat 0)).bind fun t200=>(some (a0,a1,([]:List Int),t200,0))) else (none)) else (none)) else (some (0,0,([]:List Int),([]:List Int),1)))) else (some (0,0,([]:List Int),([]:List Int),1)))=some (r1,r2,r3,r4,r5):=H
 have A3:=Aside0.mk A30;clear A30
 by_cases c4:t194=true
 · subst c4
   have H1:((bitmap_within.f a1 1 200).bind fun t195=>(if t195=true then (if 0≤(wrap64 (a0*a1)) then (if (wrap64 (a0*a1):Int).toNat≤35184372088832 then ((bitmap_wipe.f k (List.replicate (wrap64 (a0*a1):Int).toNat 0)).bind fun t200=>(some (a0,a1,([]:List Int),t200,0))) else (none)) else (none)) else (some (0,0,([]:List Int),([]:List Int),1))))=some (r1,r2,r3,r4,r5):=by rw [if_pos rfl] at H;exact H
   clear H
   have H:=H1;clear H1
   replace H:=Option.bind_eq_some_iff.mp H
   obtain ⟨t195,A50,H⟩:=H
   replace H:(if t195=true then (if 0≤(wrap64 (a0*a1)) then (if (wrap64 (a0*a1):Int).toNat≤35184372088832 then ((bitmap_wipe.f k (List.replicate (wrap64 (a0*a1):Int).toNat 0)).bind fun t200=>(some (a0,a1,([]:List Int),t200,0))) else (none)) else (none)) else (some (0,0,([]:List Int),([]:List Int),1)))=some (r1,r2,r3,r4,r5):=H
   have A5:=Aside0.mk A50;clear A50
   by_cases c6:t195=true
   · subst c6
     have H1:(if 0≤(wrap64 (a0*a1)) then (if (wrap64 (a0*a1):Int).toNat≤35184372088832 then ((bitmap_wipe.f k (List.replicate (wrap64 (a0*a1):Int).toNat 0)).bind fun t200=>(some (a0,a1,([]:List Int),t200,0))) else (none)) else (none))=some (r1,r2,r3,r4,r5):=by rw [if_pos rfl] at H;exact H
     clear H
     have H:=H1;clear H1
     obtain ⟨ji7,hji7⟩:∃ j_:Int,(wrap64 (a0*a1))=j_:=⟨_,rfl⟩
     replace H:(if 0≤(ji7) then (if (ji7:Int).toNat≤35184372088832 then ((bitmap_wipe.f k (List.replicate (ji7:Int).toNat 0)).bind fun t200=>(some (a0,a1,([]:List Int),t200,0))) else (none)) else (none))=some (r1,r2,r3,r4,r5):=by first|(rw [hji7] at H;exact H)|(simp only [hji7] at H ⊢;exact H)
     (try rw [hji7] at A3)
     (try rw [hji7] at A5)
     have hji7w:(IntKind.i64.wrap (a0*a1))=ji7:=(i64_w _).trans hji7
     by_cases c8:0≤(ji7)
     · rw [if_pos c8] at H
       have c8b0:=eq_true c8
       have c8b1:decide (0≤(ji7))=true:=decide_eq_true c8;clear c8
       by_cases c9:(ji7:Int).toNat≤35184372088832
       · rw [if_pos c9] at H
         have c9b0:=eq_true c9
         have c9b1:decide ((ji7:Int).toNat≤35184372088832)=true:=decide_eq_true c9;clear c9
         obtain ⟨y196,hy196⟩:∃ y_:List Int,y_=(List.replicate (ji7:Int).toNat 0):=⟨_,rfl⟩
         replace H:((bitmap_wipe.f k y196).bind fun t200=>(some (a0,a1,([]:List Int),t200,0)))=some (r1,r2,r3,r4,r5):=by first|(rw [hy196];with_reducible exact H)|(have H2_:=(Option.bind_some _ _).symm.trans H;rw [hy196];with_reducible exact H2_)|(have H2_:=(Option.bind_some _ _).symm.trans H;with_reducible exact H2_)|with_reducible exact H|(rw [hy196];exact H)|exact H
         have Ny196:=Aside0.mk hy196;clear hy196
         replace H:=Option.bind_eq_some_iff.mp H
         obtain ⟨t200,A100,H⟩:=H
         replace H:(some (a0,a1,([]:List Int),t200,0))=some (r1,r2,r3,r4,r5):=H
         have A10:=Aside0.mk A100;clear A100
         simp only [Option.some.injEq,Prod.mk.injEq] at H
         obtain ⟨rfl,rfl,rfl,rfl,rfl⟩:=H
         go_enter Try.func23,Try.ntmps23
         go_wp2_with (first|((with_reducible refine gate_dst (N:=4) rfl ?_);refine box_event ?hg (N:=4) ?hd (cs:=#[.int .i64 0,.int .i64 0,.slice none 0 0,.slice none 0 0]) (t:=38) ?hr ?_;(case hd=>rfl);(case hg=>rfl);(case hr=>first|(go_simp;done)|(go_simp;rfl));intro gb193 hg w11 hbox hb;have n0_:=Aside0.mk (below_step (belV HB.out) hb);have n1_:=Aside0.mk (hbox);have n2_:=Aside0.mk ((by rw [hg];exact (below_size (belV HB.out)):w.heap.size≤gb193));have n3_:=Aside0.mk ((by rw [hg];exact (below_size (belV HB.out)):w.heap.size≤gb193));clear HB;have HB:=n0_;have BK193:=n1_;have GW193:=n2_;have GE193:=n3_;clear n0_ n1_ n2_ n3_;clear hb hbox hg)|((with_reducible refine gate_callee (f:=47) rfl ?_);refine goesL_ (some 8) rfl rfl Try.func47 (by kernel_rfl) rfl #[.int .i64 a0,.int .i64 1,.int .i64 200] rfl (by (try simp only [List.map_toArray,List.map_cons,List.map_nil]);first|done|rfl|(simp only [List.length_drop,List.length_take];rfl)) ?_;(with_reducible refine (bitmap_within.calls a0 1 200 true _ A3.out).mono ?_);rintro e w' ⟨rfl,⟨nd,rfl⟩⟩;refine ⟨_,rfl,?_⟩;(try (rw [drewN_self w11];generalize hq_:World.drewN w11 _=w11;have n0_:Aside0 (w11.heap[gb193]?=some (.cells #[.int .i64 0,.int .i64 0,.slice none 0 0,.slice none 0 0] 38 (0,0))):=⟨by rw [← hq_];exact (blkV BK193.out)⟩;have n1_:Aside0 (Below w.heap.size w w11):=⟨by rw [← hq_];exact (belV1 HB.out GE193.out)⟩;clear BK193 HB hq_;have BK193:=n0_;have HB:=n1_;clear n0_ n1_)))|(go_at_call 47;(with_reducible refine (bitmap_within.calls a1 1 200 true _ A5.out).mono ?_);rintro e w' ⟨rfl,⟨nd,rfl⟩⟩;(try (rw [drewN_self w11];generalize hq_:World.drewN w11 _=w11;have n0_:Aside0 (w11.heap[gb193]?=some (.cells #[.int .i64 0,.int .i64 0,.slice none 0 0,.slice none 0 0] 38 (0,0))):=⟨by rw [← hq_];exact (blkV BK193.out)⟩;have n1_:Aside0 (Below w.heap.size w w11):=⟨by rw [← hq_];exact (belV1 HB.out GE193.out)⟩;clear BK193 HB hq_;have BK193:=n0_;have HB:=n1_;clear n0_ n1_)))|((with_reducible refine gate_dst (N:=21) rfl ?_);refine Kd.R_make (Kd.int .i64) _ 3 rfl (N:=21) rfl 22 _ _ rfl ji7 rfl rfl Try.underlying22 (.int .i64 0) 8 info3 rfl (by decide) (by omega) 0 (ok:=fun _=>True) (okp:=fun _=>True) rfl (fun _ hk=>hk) trivial (of_decide_eq_true asV) (Nat.le_trans (Nat.mul_le_mul_right _ (of_decide_eq_true asV:ji7.toNat≤35184372088832)) (by omega)) (Below.refl _ _) (Nat.le_refl _) ?_;intro v197 w12 ho13 hb hg_ hnew_;clear hg_ hnew_;(first|rw [← Ny196.out] at ho13|(simp only [Int.reduceToNat] at ho13;rw [← Ny196.out] at ho13));have n0_:=Aside0.mk (Kd.R_lower ho13 (below_size (belV1 HB.out GE193.out)));have n1_:=Aside0.mk (blk_below (g:=gb193) (blkV BK193.out) hb);have n2_:=Aside0.mk (below_step (belV1 HB.out GE193.out) hb);clear BK193;clear HB;have HO198:=n0_;have BK193:=n1_;have HB:=n2_;clear n0_ n1_ n2_;clear hb ho13;obtain ⟨Ao14,co14,eo14⟩:=Kd.R_slice HO198.out;subst eo14)|((with_reducible refine gate_dst (N:=6) rfl ?_);refine box_event ?hg (N:=6) ?hd (cs:=#[.int .i64 0,.int .i64 0,.slice none 0 0,.slice none 0 0]) (t:=38) ?hr ?_;(case hd=>rfl);(case hg=>rfl);(case hr=>first|(go_simp;done)|(go_simp;rfl));intro gb199 hg w15 hbox hb;have n0_:=Aside0.mk (Kd.R_below (rowV HO198.out) hb);have n1_:=Aside0.mk (blk_below (g:=gb193) (blkV BK193.out) hb);have n2_:=Aside0.mk (below_step (belV1 HB.out GE193.out) hb);have n3_:=Aside0.mk (hbox);have n4_:=Aside0.mk ((by rw [hg];exact (below_size (belV1 HB.out GE193.out)):w.heap.size≤gb199));have n5_:=Aside0.mk ((by rw [hg];exact (below_size (belV1 HB.out GE193.out)):w.heap.size≤gb199));have n6_:=Aside0.mk ((by rw [hg];exact Nat.ne_of_lt (blk_lt (g:=gb193) (blkV BK193.out)):gb193≠gb199));have n7_:=Aside0.mk ((by rw [hg];exact Nat.ne_of_gt (blk_lt (g:=gb193) (blkV BK193.out)):gb199≠gb193));clear HO198;clear BK193;clear HB;have HO198:=n0_;have BK193:=n1_;have HB:=n2_;have BK199:=n3_;have GW199:=n4_;have GE199:=n5_;have NB193_199:=n6_;have NB199_193:=n7_;clear n0_ n1_ n2_ n3_ n4_ n5_ n6_ n7_;clear hb hbox hg;have hnb16:=NB199_193.out;have hnc16:=NB193_199.out;obtain ⟨hcz17_0,hcz17_1,hcz17_2,hcz17_3,hfz17_0,hfz17_1,hfz17_2,hfz17_3⟩:=bcells4 BK199.out)|((with_reducible refine gate_store (t:=38) (p:=6) rfl ?_);refine store_event (t:=38) (p:=6) (v:=?vo_w18) (w1:=((((w15.setCell ⟨gb199,0,none⟩ (.int .i64 a0)).setCell ⟨gb199,1,none⟩ (.int .i64 a1)).setCell ⟨gb199,2,none⟩ (.slice none 0 0)).setCell ⟨gb199,3,none⟩ (.slice Ao14 y196.length co14))) ?hg ?ho ?hn ?hr ?_;(case ho=>rfl);(case hg=>rfl);(case hn=>rfl);(case hr=>first|(go_simp;done)|(go_simp;rfl));intro w18 hw;have n0_:Aside0 (Kd.R (Kd.int .i64) 3 w18 w.heap.size (fun _=>True) (.slice Ao14 y196.length co14) y196):=⟨(by rw [hw];exact (by (with_reducible repeat (first|apply Kd.R_alloc|apply Kd.R_drewN|apply Kd.R_drew));exact Kd.R_mono (Kd.R_put4 HO198.out BK199.out (by decide)) (fun _ hk=>trivial)))⟩;have n1_:Aside0 (w18.heap[gb193]?=some (.cells #[.int .i64 0,.int .i64 0,.slice none 0 0,.slice none 0 0] 38 (0,0))):=⟨(by rw [hw];exact (blkW BK193.out NB193_199.out))⟩;have n2_:Aside0 (w18.heap[gb199]?=some (.cells #[.int .i64 a0,.int .i64 a1,.slice none 0 0,.slice Ao14 y196.length co14] 38 (0,0))):=⟨(by rw [hw];exact (by (with_reducible repeat (first|refine blk_drewN ?_ _|refine blk_drew ?_|refine blk_alloc ?_ _));refine blk_put (cs:=#[.int .i64 a0,.int .i64 a1,.slice none 0 0,.slice none 0 0]) ?_ 3 _ rfl;(with_reducible repeat (first|refine blk_drewN ?_ _|refine blk_drew ?_|refine blk_alloc ?_ _));refine blk_put (cs:=#[.int .i64 a0,.int .i64 a1,.slice none 0 0,.slice none 0 0]) ?_ 2 _ rfl;(with_reducible repeat (first|refine blk_drewN ?_ _|refine blk_drew ?_|refine blk_alloc ?_ _));refine blk_put (cs:=#[.int .i64 a0,.int .i64 0,.slice none 0 0,.slice none 0 0]) ?_ 1 _ rfl;(with_reducible repeat (first|refine blk_drewN ?_ _|refine blk_drew ?_|refine blk_alloc ?_ _));refine blk_put (cs:=#[.int .i64 0,.int .i64 0,.slice none 0 0,.slice none 0 0]) ?_ 0 _ rfl;(with_reducible repeat (first|refine blk_drewN ?_ _|refine blk_drew ?_|refine blk_alloc ?_ _));exact BK199.out))⟩;have n3_:Aside0 (Below w.heap.size w w18):=⟨(by rw [hw];exact (belV2 HB.out GE193.out GE199.out))⟩;clear hw;clear HO198;clear BK193;clear BK199;clear HB;have HO198:=n0_;have BK193:=n1_;have BK199:=n2_;have HB:=n3_;clear n0_ n1_ n2_ n3_;obtain ⟨hcz19_0,hcz19_1,hcz19_2,hcz19_3,hfz19_0,hfz19_1,hfz19_2,hfz19_3⟩:=bcells4 BK199.out)|((with_reducible refine gate_callee (f:=54) rfl ?_);refine goesL_ (some 25) rfl rfl Try.func54 (by kernel_rfl) rfl #[.slice Ao14 y196.length co14] rfl (by (try simp only [List.map_toArray,List.map_cons,List.map_nil]);first|done|rfl|(simp only [List.length_drop,List.length_take];rfl)) ?_;(with_reducible refine (bitmap_wipe.calls k (fun k_=>some k_=(.slice Ao14 y196.length co14:Value).ownBlock) (.slice Ao14 y196.length co14) y196 t200 w _ ?side1 ?side2 A10.out).mono ?_);(case side1=>exact belV2 HB.out GE193.out GE199.out);(case side2=>exact Kd.R_tight rfl HO198.out);rintro e w20 ⟨rfl,hy0,hb,hkp⟩;refine ⟨_,rfl,?_⟩;have n0_:=Aside0.mk (blk_kept (blkV BK193.out) hkp (fun hs_=>(fun e_=>(Kd.R_ne HO198.out BK193.out (by decide)) e_) hs_));have n1_:=Aside0.mk (Kd.R_reok rfl hy0 (fun k_ e_=>HO198.out.1 k_ e_));have n2_:=Aside0.mk (blk_kept (blkV BK199.out) hkp (fun hs_=>(fun e_=>(Kd.R_ne HO198.out BK199.out (by decide)) e_) hs_));have n3_:=Aside0.mk (hb);clear BK193;clear HO198;clear BK199;clear HB;have BK193:=n0_;have HO198:=n1_;have BK199:=n2_;have HB:=n3_;clear n0_ n1_ n2_ n3_;(try clear hb);(try clear hkp);(try clear hy0);obtain ⟨hcz21_0,hcz21_1,hcz21_2,hcz21_3,hfz21_0,hfz21_1,hfz21_2,hfz21_3⟩:=bcells4 BK199.out;obtain ⟨hcz22_0,hcz22_1,hcz22_2,hcz22_3,hfz22_0,hfz22_1,hfz22_2,hfz22_3⟩:=bcells4 BK193.out))
         refine bodyPost_ret (results_ct rfl _ _ gb193 38 #[.int .i64 a0,.int .i64 a1,.slice none 0 0,.slice Ao14 y196.length co14] (0,0) _ rfl (by (with_reducible repeat (first|refine blk_drewN ?_ _|refine blk_drew ?_|refine blk_alloc ?_ _));refine blk_put (cs:=#[.int .i64 a0,.int .i64 a1,.slice none 0 0,.slice none 0 0]) ?_ 3 _ rfl;(with_reducible repeat (first|refine blk_drewN ?_ _|refine blk_drew ?_|refine blk_alloc ?_ _));refine blk_put (cs:=#[.int .i64 a0,.int .i64 a1,.slice none 0 0,.slice none 0 0]) ?_ 2 _ rfl;(with_reducible repeat (first|refine blk_drewN ?_ _|refine blk_drew ?_|refine blk_alloc ?_ _));refine blk_put (cs:=#[.int .i64 a0,.int .i64 0,.slice none 0 0,.slice none 0 0]) ?_ 1 _ rfl;(with_reducible repeat (first|refine blk_drewN ?_ _|refine blk_drew ?_|refine blk_alloc ?_ _));refine blk_put (cs:=#[.int .i64 0,.int .i64 0,.slice none 0 0,.slice none 0 0]) ?_ 0 _ rfl;(with_reducible repeat (first|refine blk_drewN ?_ _|refine blk_drew ?_|refine blk_alloc ?_ _));exact BK193.out) Try.underlying38 rfl (by kernel_rfl)) rfl ?_
         exact ⟨_,_,by first|rfl|(simp [errW_none,errW_some] <;> rfl)|(simp only [← hji7];first|rfl|(simp [errW_none,errW_some] <;> rfl))|(simp [*,errW_none,errW_some] <;> rfl),by first|exact Kd.R_nil _ _ _ _ _|exact Kd.N_nil _ _ _ _ _|exact Kd.V_nil _ _ _ _ _|exact Kd.Q_nil _ _ _ _ _|exact Kd.S_nil _ _ _ _ _,by (with_reducible repeat (first|apply Kd.R_alloc|apply Kd.R_drewN|apply Kd.R_drew));exact Kd.R_mono (Kd.R_put4 HO198.out BK193.out (by decide)) (fun _ hk=>(by simp [Value.ownBlock])),by repeat (first|(with_reducible first|exact HB.out|apply below_alloc|apply pw_below_drewN|apply below_drew1|refine below_set ?_ GE193.out|refine below_set ?_ GE199.out)|exact HB.out)⟩
       rw [if_neg c9] at H
       exact absurd H (by simp)
     rw [if_neg c8] at H
     exact absurd H (by simp)
   replace c6:=Bool.eq_false_iff.mpr c6;subst c6
   have H1:(some (0,0,([]:List Int),([]:List Int),1))=some (r1,r2,r3,r4,r5):=by rw [if_neg (show ¬ (false=true) by decide)] at H;exact H
   clear H
   have H:=H1;clear H1
   simp only [Option.some.injEq,Prod.mk.injEq] at H
   obtain ⟨rfl,rfl,rfl,rfl,rfl⟩:=H
   go_enter Try.func23,Try.ntmps23
   go_wp2_with (first|((with_reducible refine gate_dst (N:=4) rfl ?_);refine box_event ?hg (N:=4) ?hd (cs:=#[.int .i64 0,.int .i64 0,.slice none 0 0,.slice none 0 0]) (t:=38) ?hr ?_;(case hd=>rfl);(case hg=>rfl);(case hr=>first|(go_simp;done)|(go_simp;rfl));intro gb193 hg w23 hbox hb;have n0_:=Aside0.mk (below_step (belV HB.out) hb);have n1_:=Aside0.mk (hbox);have n2_:=Aside0.mk ((by rw [hg];exact (below_size (belV HB.out)):w.heap.size≤gb193));have n3_:=Aside0.mk ((by rw [hg];exact (below_size (belV HB.out)):w.heap.size≤gb193));clear HB;have HB:=n0_;have BK193:=n1_;have GW193:=n2_;have GE193:=n3_;clear n0_ n1_ n2_ n3_;clear hb hbox hg)|((with_reducible refine gate_callee (f:=47) rfl ?_);refine goesL_ (some 8) rfl rfl Try.func47 (by kernel_rfl) rfl #[.int .i64 a0,.int .i64 1,.int .i64 200] rfl (by (try simp only [List.map_toArray,List.map_cons,List.map_nil]);first|done|rfl|(simp only [List.length_drop,List.length_take];rfl)) ?_;(with_reducible refine (bitmap_within.calls a0 1 200 true _ A3.out).mono ?_);rintro e w' ⟨rfl,⟨nd,rfl⟩⟩;refine ⟨_,rfl,?_⟩;(try (rw [drewN_self w23];generalize hq_:World.drewN w23 _=w23;have n0_:Aside0 (w23.heap[gb193]?=some (.cells #[.int .i64 0,.int .i64 0,.slice none 0 0,.slice none 0 0] 38 (0,0))):=⟨by rw [← hq_];exact (blkV BK193.out)⟩;have n1_:Aside0 (Below w.heap.size w w23):=⟨by rw [← hq_];exact (belV1 HB.out GE193.out)⟩;clear BK193 HB hq_;have BK193:=n0_;have HB:=n1_;clear n0_ n1_)))|(go_at_call 47;(with_reducible refine (bitmap_within.calls a1 1 200 false _ A5.out).mono ?_);rintro e w' ⟨rfl,⟨nd,rfl⟩⟩;(try (rw [drewN_self w23];generalize hq_:World.drewN w23 _=w23;have n0_:Aside0 (w23.heap[gb193]?=some (.cells #[.int .i64 0,.int .i64 0,.slice none 0 0,.slice none 0 0] 38 (0,0))):=⟨by rw [← hq_];exact (blkV BK193.out)⟩;have n1_:Aside0 (Below w.heap.size w w23):=⟨by rw [← hq_];exact (belV1 HB.out GE193.out)⟩;clear BK193 HB hq_;have BK193:=n0_;have HB:=n1_;clear n0_ n1_));obtain ⟨hcz24_0,hcz24_1,hcz24_2,hcz24_3,hfz24_0,hfz24_1,hfz24_2,hfz24_3⟩:=bcells4 BK193.out))
   refine bodyPost_ret (results_ct rfl _ _ gb193 38 #[.int .i64 0,.int .i64 0,.slice none 0 0,.slice none 0 0] (0,0) _ rfl (by (with_reducible repeat (first|refine blk_drewN ?_ _|refine blk_drew ?_|refine blk_alloc ?_ _));refine blk_put (cs:=#[.int .i64 0,.int .i64 0,.slice none 0 0,.slice none 0 0]) ?_ 3 _ rfl;(with_reducible repeat (first|refine blk_drewN ?_ _|refine blk_drew ?_|refine blk_alloc ?_ _));refine blk_put (cs:=#[.int .i64 0,.int .i64 0,.slice none 0 0,.slice none 0 0]) ?_ 2 _ rfl;(with_reducible repeat (first|refine blk_drewN ?_ _|refine blk_drew ?_|refine blk_alloc ?_ _));refine blk_put (cs:=#[.int .i64 0,.int .i64 0,.slice none 0 0,.slice none 0 0]) ?_ 1 _ rfl;(with_reducible repeat (first|refine blk_drewN ?_ _|refine blk_drew ?_|refine blk_alloc ?_ _));refine blk_put (cs:=#[.int .i64 0,.int .i64 0,.slice none 0 0,.slice none 0 0]) ?_ 0 _ rfl;(with_reducible repeat (first|refine blk_drewN ?_ _|refine blk_drew ?_|refine blk_alloc ?_ _));exact BK193.out) Try.underlying38 rfl (by kernel_rfl)) rfl ?_
   exact ⟨_,_,by first|rfl|(simp [errW_none,errW_some] <;> rfl)|(simp [*,errW_none,errW_some] <;> rfl),by first|exact Kd.R_nil _ _ _ _ _|exact Kd.N_nil _ _ _ _ _|exact Kd.V_nil _ _ _ _ _|exact Kd.Q_nil _ _ _ _ _|exact Kd.S_nil _ _ _ _ _,by first|exact Kd.R_nil _ _ _ _ _|exact Kd.N_nil _ _ _ _ _|exact Kd.V_nil _ _ _ _ _|exact Kd.Q_nil _ _ _ _ _|exact Kd.S_nil _ _ _ _ _,by repeat (first|(with_reducible first|exact HB.out|apply below_alloc|apply pw_below_drewN|apply below_drew1|refine below_set ?_ GE193.out)|exact HB.out)⟩
 replace c4:=Bool.eq_false_iff.mpr c4;subst c4
 have H1:(some (0,0,([]:List Int),([]:List Int),1))=some (r1,r2,r3,r4,r5):=by rw [if_neg (show ¬ (false=true) by decide)] at H;exact H
 clear H
 have H:=H1;clear H1
 simp only [Option.some.injEq,Prod.mk.injEq] at H
 obtain ⟨rfl,rfl,rfl,rfl,rfl⟩:=H
 go_enter Try.func23,Try.ntmps23
 go_wp2_with (first|((with_reducible refine gate_dst (N:=4) rfl ?_);refine box_event ?hg (N:=4) ?hd (cs:=#[.int .i64 0,.int .i64 0,.slice none 0 0,.slice none 0 0]) (t:=38) ?hr ?_;(case hd=>rfl);(case hg=>rfl);(case hr=>first|(go_simp;done)|(go_simp;rfl));intro gb193 hg w25 hbox hb;have n0_:=Aside0.mk (below_step (belV HB.out) hb);have n1_:=Aside0.mk (hbox);have n2_:=Aside0.mk ((by rw [hg];exact (below_size (belV HB.out)):w.heap.size≤gb193));have n3_:=Aside0.mk ((by rw [hg];exact (below_size (belV HB.out)):w.heap.size≤gb193));clear HB;have HB:=n0_;have BK193:=n1_;have GW193:=n2_;have GE193:=n3_;clear n0_ n1_ n2_ n3_;clear hb hbox hg)|((with_reducible refine gate_callee (f:=47) rfl ?_);refine goesL_ (some 8) rfl rfl Try.func47 (by kernel_rfl) rfl #[.int .i64 a0,.int .i64 1,.int .i64 200] rfl (by (try simp only [List.map_toArray,List.map_cons,List.map_nil]);first|done|rfl|(simp only [List.length_drop,List.length_take];rfl)) ?_;(with_reducible refine (bitmap_within.calls a0 1 200 false _ A3.out).mono ?_);rintro e w' ⟨rfl,⟨nd,rfl⟩⟩;refine ⟨_,rfl,?_⟩;(try (rw [drewN_self w25];generalize hq_:World.drewN w25 _=w25;have n0_:Aside0 (w25.heap[gb193]?=some (.cells #[.int .i64 0,.int .i64 0,.slice none 0 0,.slice none 0 0] 38 (0,0))):=⟨by rw [← hq_];exact (blkV BK193.out)⟩;have n1_:Aside0 (Below w.heap.size w w25):=⟨by rw [← hq_];exact (belV1 HB.out GE193.out)⟩;clear BK193 HB hq_;have BK193:=n0_;have HB:=n1_;clear n0_ n1_));obtain ⟨hcz26_0,hcz26_1,hcz26_2,hcz26_3,hfz26_0,hfz26_1,hfz26_2,hfz26_3⟩:=bcells4 BK193.out))
 refine bodyPost_ret (results_ct rfl _ _ gb193 38 #[.int .i64 0,.int .i64 0,.slice none 0 0,.slice none 0 0] (0,0) _ rfl (by (with_reducible repeat (first|refine blk_drewN ?_ _|refine blk_drew ?_|refine blk_alloc ?_ _));refine blk_put (cs:=#[.int .i64 0,.int .i64 0,.slice none 0 0,.slice none 0 0]) ?_ 3 _ rfl;(with_reducible repeat (first|refine blk_drewN ?_ _|refine blk_drew ?_|refine blk_alloc ?_ _));refine blk_put (cs:=#[.int .i64 0,.int .i64 0,.slice none 0 0,.slice none 0 0]) ?_ 2 _ rfl;(with_reducible repeat (first|refine blk_drewN ?_ _|refine blk_drew ?_|refine blk_alloc ?_ _));refine blk_put (cs:=#[.int .i64 0,.int .i64 0,.slice none 0 0,.slice none 0 0]) ?_ 1 _ rfl;(with_reducible repeat (first|refine blk_drewN ?_ _|refine blk_drew ?_|refine blk_alloc ?_ _));refine blk_put (cs:=#[.int .i64 0,.int .i64 0,.slice none 0 0,.slice none 0 0]) ?_ 0 _ rfl;(with_reducible repeat (first|refine blk_drewN ?_ _|refine blk_drew ?_|refine blk_alloc ?_ _));exact BK193.out) Try.underlying38 rfl (by kernel_rfl)) rfl ?_
 exact ⟨_,_,by first|rfl|(simp [errW_none,errW_some] <;> rfl)|(simp [*,errW_none,errW_some] <;> rfl),by first|exact Kd.R_nil _ _ _ _ _|exact Kd.N_nil _ _ _ _ _|exact Kd.V_nil _ _ _ _ _|exact Kd.Q_nil _ _ _ _ _|exact Kd.S_nil _ _ _ _ _,by first|exact Kd.R_nil _ _ _ _ _|exact Kd.N_nil _ _ _ _ _|exact Kd.V_nil _ _ _ _ _|exact Kd.Q_nil _ _ _ _ _|exact Kd.S_nil _ _ _ _ _,by repeat (first|(with_reducible first|exact HB.out|apply below_alloc|apply pw_below_drewN|apply below_drew1|refine below_set ?_ GE193.out)|exact HB.out)⟩

/-! ### bitmap_colours_1: function 88 -/
def bitmap_colours_1.f (a0 : Int) : Option (Bool) := (bitmap_within.f a0 0 16777215).bind fun t201 => (some (!t201))
set_option maxHeartbeats 8000000 in
set_option maxRecDepth 100000 in
theorem bitmap_colours_1.calls (a0 : Int) (r : Bool) (w : World) (h : bitmap_colours_1.f a0 = some r) :
    Calls Try.prog 88 #[.int .i64 a0] w fun e w' => e = .returned (.bool r) ∧ Drawn0 w w' := by
  have H : ((bitmap_within.f a0 0 16777215).bind fun t201 => (some (!t201))) = some r := h
  clear h
  replace H := Option.bind_eq_some_iff.mp H
  obtain ⟨t201, A20, H⟩ := H
  replace H : (some (!t201)) = some r := H
  have A2 := Aside0.mk A20
  clear A20
  obtain rfl := Option.some.inj H
  go_enter Try.func88, Try.ntmps88
  go_wp2_with (first | ((with_reducible refine gate_callee (f := 47) rfl ?_); refine goesL_ (some 4) rfl rfl Try.func47 (by kernel_rfl) rfl #[.int .i64 a0, .int .i64 0, .int .i64 16777215] rfl (by (try simp only [List.map_toArray, List.map_cons, List.map_nil]); first | done | rfl | (simp only [List.length_drop, List.length_take]; rfl)) ?_; (with_reducible refine (bitmap_within.calls a0 0 16777215 t201 _ A2.out).mono ?_); rintro e w' ⟨rfl, ⟨nd, rfl⟩⟩; refine ⟨_, rfl, ?_⟩))
  go_ret
  exact ⟨by first | rfl | (simp; done) | (simp [*]; done), by repeat (first | exact Drawn0.refl _ | apply Drawn0.step)⟩

/-! ### slices_IndexFunc_int_int__88: function 83 -/
def slices_IndexFunc_int_int__88.l0 : Nat → List Int → Int → Int → Option (Int)
 | 0,_,_,_=>none
 | k+1,x0,x7,x8=>if x8 < x7 then (if 0≤x8 then (if x8 < (x0.length:Int) then ((bitmap_colours_1.f (rd x0 x8)).bind fun t203=>(if t203=true then (some x8) else (slices_IndexFunc_int_int__88.l0 k x0 x7 (wrap64 (x8+1))))) else (none)) else (none)) else (some (-1))
def slices_IndexFunc_int_int__88.f (k : Nat) (l0 : List Int)  : Option (Int) := slices_IndexFunc_int_int__88.l0 k l0 (l0.length : Int) 0
theorem slices_IndexFunc_int_int__88.mono_l:∀ k,(∀ y0 y1 y2,LeO (slices_IndexFunc_int_int__88.l0 k y0 y1 y2) (slices_IndexFunc_int_int__88.l0 (k+1) y0 y1 y2))
 | 0=>fun _ _ _ r h=>by simp [slices_IndexFunc_int_int__88.l0] at h
 | k+1=>by
  have ih0:=slices_IndexFunc_int_int__88.mono_l k
  · intro y0 y1 y2
    unfold slices_IndexFunc_int_int__88.l0
    repeat' first
    | (with_reducible exact ih0 _ _ _)
    | (with_reducible exact LeO.refl _)
    | (with_reducible exact LeO.none _)
    | (with_reducible refine LeO.ite ?_ ?_)
    | (with_reducible refine LeO.bind ?_ (fun _=>?_))
    | exact LeO.none _
    | refine LeO.ite ?_ ?_
    | refine LeO.bind ?_ (fun _=>?_)
theorem slices_IndexFunc_int_int__88.mono:∀ a0 k,LeO (slices_IndexFunc_int_int__88.f k a0) (slices_IndexFunc_int_int__88.f (k+1) a0):=by
 intro a0 k
 have ih0:=slices_IndexFunc_int_int__88.mono_l k
 unfold slices_IndexFunc_int_int__88.f
 repeat' first
  | (with_reducible exact ih0 _ _ _)
  | (with_reducible exact LeO.refl _)
  | (with_reducible exact LeO.none _)
  | (with_reducible refine LeO.ite ?_ ?_)
  | (with_reducible refine LeO.bind ?_ (fun _=>?_))
  | exact LeO.none _
  | refine LeO.ite ?_ ?_
  | refine LeO.bind ?_ (fun _=>?_)
set_option maxHeartbeats 8000000 in
set_option maxRecDepth 100000 in
theorem slices_IndexFunc_int_int__88.calls (k:Nat) (A0:Option Addr) (c0:Nat) (l0:List Int)  (r:Int) (w:World) (hr0:Kd.C (Kd.int .i64) w A0 l0.length l0) (hc0:l0.length≤c0) (h:slices_IndexFunc_int_int__88.f k l0=some r) :
 Calls Try.prog 83 #[.slice A0 l0.length c0,.func (.func 88) #[] #[]] w fun e w'=>e=.returned (.int .i64 r)∧Drawn0 w w':=by
 have HR0:=Aside0.mk hr0
 have HC0:=Aside0.mk hc0;clear hr0 hc0
 have H:(slices_IndexFunc_int_int__88.l0 k l0 (l0.length:Int) 0)=some r:=h;clear h
 have H':=Aside0.mk H;clear H
 go_enter Try.func83,Try.ntmps83
 go_wp2
 go_loopg [8] k (fun kq v8 w'=>∃ (x8_1:Int),v8=.int .i64 x8_1∧Aside0 (slices_IndexFunc_int_int__88.l0 kq l0 (l0.length:Int) x8_1=some r)∧Aside0 (kq≤k)∧Drawn0 w w')
 case atStart=>exact ⟨(0),okV,H',⟨Nat.le_refl _⟩,by repeat (first|exact Drawn0.refl _|apply Drawn0.step)⟩
 case round =>
  clear H'
  try clear p2
  obtain ⟨x8_1,rfl,HA,HK1,⟨m1,rfl⟩⟩:=hrel
  cases gk with
  | zero=>exact absurd HA.out (by simp [slices_IndexFunc_int_int__88.l0])
  | succ k1 =>
   have H:=HA.out;clear HA
   simp only [slices_IndexFunc_int_int__88.l0] at H
   by_cases c3:x8_1 < (l0.length:Int)
   · rw [if_pos c3] at H
     have c3b0:decide (x8_1 < (l0.length:Int))=true:=decide_eq_true c3;clear c3
     by_cases c4:0≤x8_1
     · rw [if_pos c4] at H
       have c4b0:decide (0≤x8_1)=true:=decide_eq_true c4;clear c4
       by_cases c5:x8_1 < (l0.length:Int)
       · rw [if_pos c5] at H
         have c5b0:decide (x8_1 < (l0.length:Int))=true:=decide_eq_true c5;clear c5
         replace H:=Option.bind_eq_some_iff.mp H
         obtain ⟨t203,A60,H⟩:=H
         replace H:(if t203=true then (some x8_1) else (slices_IndexFunc_int_int__88.l0 k1 l0 (l0.length:Int) (wrap64 (x8_1+1))))=some r:=H
         have A6:=Aside0.mk A60;clear A60
         by_cases c7:t203=true
         · subst c7
           have H1:(some x8_1)=some r:=by rw [if_pos rfl] at H;exact H
           clear H
           have H:=H1;clear H1
           obtain rfl:=Option.some.inj H
           have p202:0≤(x8_1:Int):=of_decide_eq_true asV
           have q202:x8_1 < (l0.length:Int):=of_decide_eq_true asV
           obtain ⟨ad202,e202,hx202_0⟩:=Kd.at_int HR0.out x8_1 p202 q202
           cases e202
           replace p202:=eq_true p202
           replace q202:=eq_true q202
           go_wp2_with (first|(go_at_call 88;(with_reducible refine (bitmap_colours_1.calls (rd l0 x8_1) true _ A6.out).mono ?_);rintro e w' ⟨rfl,⟨nd,rfl⟩⟩))
           go_ret
           exact ⟨by first|rfl|(simp;done)|(simp [*];done),by repeat (first|exact Drawn0.refl _|apply Drawn0.step)⟩
         replace c7:=Bool.eq_false_iff.mpr c7;subst c7
         have H1:(slices_IndexFunc_int_int__88.l0 k1 l0 (l0.length:Int) (wrap64 (x8_1+1)))=some r:=by rw [if_neg (show ¬ (false=true) by decide)] at H;exact H
         clear H
         have H:=H1;clear H1
         have H':=Aside0.mk H;clear H
         have p202:0≤(x8_1:Int):=of_decide_eq_true asV
         have q202:x8_1 < (l0.length:Int):=of_decide_eq_true asV
         obtain ⟨ad202,e202,hx202_0⟩:=Kd.at_int HR0.out x8_1 p202 q202
         cases e202
         replace p202:=eq_true p202
         replace q202:=eq_true q202
         go_wp2_with (first|(go_at_call 88;(with_reducible refine (bitmap_colours_1.calls (rd l0 x8_1) false _ A6.out).mono ?_);rintro e w' ⟨rfl,⟨nd,rfl⟩⟩))
         go_roundg k1
         case measure=>have:=HK1.out;omega
         case rel=>exact ⟨(wrap64 (x8_1+1)),okV,H',⟨by have:=HK1.out;omega⟩,by repeat (first|exact Drawn0.refl _|apply Drawn0.step)⟩
       rw [if_neg c5] at H
       exact absurd H (by simp)
     rw [if_neg c4] at H
     exact absurd H (by simp)
   rw [if_neg c3] at H
   have c3b0:decide (x8_1 < (l0.length:Int))=false:=decide_eq_false c3;clear c3
   obtain rfl:=Option.some.inj H
   go_wp2
   go_ret
   exact ⟨by first|rfl|(simp;done)|(simp [*];done),by repeat (first|exact Drawn0.refl _|apply Drawn0.step)⟩

/-! ### slices_ContainsFunc_int_int__88: function 48 -/
def slices_ContainsFunc_int_int__88.f (k : Nat) (l0 : List Int)  : Option (Bool) := (slices_IndexFunc_int_int__88.f k l0).bind fun t204 => (some (decide (t204 ≥ 0)))
theorem slices_ContainsFunc_int_int__88.mono : ∀ a0 k, LeO (slices_ContainsFunc_int_int__88.f k a0) (slices_ContainsFunc_int_int__88.f (k + 1) a0) := by
  intro a0 k
  unfold slices_ContainsFunc_int_int__88.f
  repeat' first
      | (with_reducible exact slices_IndexFunc_int_int__88.mono _ _)
      | (with_reducible exact LeO.refl _)
      | (with_reducible exact LeO.none _)
      | (with_reducible refine LeO.ite ?_ ?_)
      | (with_reducible refine LeO.bind ?_ (fun _ => ?_))
      | exact slices_IndexFunc_int_int__88.mono _ _
      | exact LeO.none _
      | refine LeO.ite ?_ ?_
      | refine LeO.bind ?_ (fun _ => ?_)
set_option maxHeartbeats 8000000 in
set_option maxRecDepth 100000 in
theorem slices_ContainsFunc_int_int__88.calls (k : Nat) (A0 : Option Addr) (c0 : Nat) (l0 : List Int)  (r : Bool) (w : World) (hr0 : Kd.C (Kd.int .i64) w A0 l0.length l0) (hc0 : l0.length ≤ c0) (h : slices_ContainsFunc_int_int__88.f k l0 = some r) :
    Calls Try.prog 48 #[.slice A0 l0.length c0, .func (.func 88) #[] #[]] w fun e w' => e = .returned (.bool r) ∧ Drawn0 w w' := by
  have HR0 := Aside0.mk hr0
  have HC0 := Aside0.mk hc0
  clear hr0 hc0
  have H : ((slices_IndexFunc_int_int__88.f k l0).bind fun t204 => (some (decide (t204 ≥ 0)))) = some r := h
  clear h
  replace H := Option.bind_eq_some_iff.mp H
  obtain ⟨t204, A30, H⟩ := H
  replace H : (some (decide (t204 ≥ 0))) = some r := H
  have A3 := Aside0.mk A30
  clear A30
  obtain rfl := Option.some.inj H
  go_enter Try.func48, Try.ntmps48
  go_wp2_with (first | ((with_reducible refine gate_callee (f := 83) rfl ?_); refine goesL_ (some 7) rfl rfl Try.func83 (by kernel_rfl) rfl #[.slice A0 l0.length c0, .func (.func 88) #[] #[]] rfl (by (try simp only [List.map_toArray, List.map_cons, List.map_nil]); first | done | rfl | (simp only [List.length_drop, List.length_take]; rfl)) ?_; (with_reducible refine (slices_IndexFunc_int_int__88.calls k _ _ l0  t204 _ ?side1 ?side2 A3.out).mono ?_); (case side1 => repeat (first | exact HR0.out | (with_reducible refine Kd.C_alloc ?_ _) | (with_reducible refine Kd.C_drewN ?_ _) | (with_reducible refine Kd.C_drew ?_))); (case side2 => exact HC0.out); rintro e w' ⟨rfl, ⟨nd, rfl⟩⟩; refine ⟨_, rfl, ?_⟩))
  go_ret
  exact ⟨by first | rfl | (simp; done) | (simp [*]; done), by repeat (first | exact Drawn0.refl _ | apply Drawn0.step)⟩

/-! ### bitmap_colours: function 71 -/
def bitmap_colours.f (k : Nat) (l0 : List Int) : Option (Bool) := (slices_ContainsFunc_int_int__88.f k l0).bind fun t205 => (some (!t205))
theorem bitmap_colours.mono : ∀ a0 k, LeO (bitmap_colours.f k a0) (bitmap_colours.f (k + 1) a0) := by
  intro a0 k
  unfold bitmap_colours.f
  repeat' first
      | (with_reducible exact slices_ContainsFunc_int_int__88.mono _ _)
      | (with_reducible exact LeO.refl _)
      | (with_reducible exact LeO.none _)
      | (with_reducible refine LeO.ite ?_ ?_)
      | (with_reducible refine LeO.bind ?_ (fun _ => ?_))
      | exact slices_ContainsFunc_int_int__88.mono _ _
      | exact LeO.none _
      | refine LeO.ite ?_ ?_
      | refine LeO.bind ?_ (fun _ => ?_)
set_option maxHeartbeats 8000000 in
set_option maxRecDepth 100000 in
theorem bitmap_colours.calls (k : Nat) (A0 : Option Addr) (c0 : Nat) (l0 : List Int) (r : Bool) (w : World) (hr0 : Kd.C (Kd.int .i64) w A0 l0.length l0) (hc0 : l0.length ≤ c0) (h : bitmap_colours.f k l0 = some r) :
    Calls Try.prog 71 #[.slice A0 l0.length c0] w fun e w' => e = .returned (.bool r) ∧ Drawn0 w w' := by
  have HR0 := Aside0.mk hr0
  have HC0 := Aside0.mk hc0
  clear hr0 hc0
  have H : ((slices_ContainsFunc_int_int__88.f k l0).bind fun t205 => (some (!t205))) = some r := h
  clear h
  replace H := Option.bind_eq_some_iff.mp H
  obtain ⟨t205, A20, H⟩ := H
  replace H : (some (!t205)) = some r := H
  have A2 := Aside0.mk A20
  clear A20
  obtain rfl := Option.some.inj H
  go_enter Try.func71, Try.ntmps71
  go_wp2_with (first | ((with_reducible refine gate_callee (f := 48) rfl ?_); refine goesL_ (some 4) rfl rfl Try.func48 (by kernel_rfl) rfl #[.slice A0 l0.length c0, .func (.func 88) #[] #[]] rfl (by (try simp only [List.map_toArray, List.map_cons, List.map_nil]); first | done | rfl | (simp only [List.length_drop, List.length_take]; rfl)) ?_; (with_reducible refine (slices_ContainsFunc_int_int__88.calls k _ _ l0  t205 _ ?side1 ?side2 A2.out).mono ?_); (case side1 => repeat (first | exact HR0.out | (with_reducible refine Kd.C_alloc ?_ _) | (with_reducible refine Kd.C_drewN ?_ _) | (with_reducible refine Kd.C_drew ?_))); (case side2 => exact HC0.out); rintro e w' ⟨rfl, ⟨nd, rfl⟩⟩; refine ⟨_, rfl, ?_⟩))
  go_ret
  exact ⟨by first | rfl | (simp; done) | (simp [*]; done), by repeat (first | exact Drawn0.refl _ | apply Drawn0.step)⟩

/-! ### bitmap_place: function 58 -/
def bitmap_place.f (a0_0 : Int) (a0_1 : Int) (a0_2 : Int) (a0_3 : Int) (l0_4 : List Int) : Option (Bool) := (bitmap_within.f a0_0 0 999).bind fun t207 => (if t207 = true then ((bitmap_within.f a0_1 0 999).bind fun t208 => (if t208 = true then ((bitmap_within.f a0_2 1 64).bind fun t209 => (if t209 = true then ((bitmap_within.f a0_3 1 64).bind fun t210 => (some t210)) else (some false))) else (some false))) else (some false))
set_option maxHeartbeats 8000000 in
set_option maxRecDepth 100000 in
theorem bitmap_place.calls (a0_0:Int) (a0_1:Int) (a0_2:Int) (a0_3:Int) (A0_4:Option Addr) (c0_4:Nat) (l0_4:List Int) (r:Bool) (w:World) (hr0_4:Kd.C (Kd.int .i64) w A0_4 l0_4.length l0_4) (hc0_4:l0_4.length≤c0_4) (h:bitmap_place.f a0_0 a0_1 a0_2 a0_3 l0_4=some r) :
 Calls Try.prog 58 #[.agg #[.int .i64 a0_0,.int .i64 a0_1,.int .i64 a0_2,.int .i64 a0_3,.slice A0_4 l0_4.length c0_4]] w fun e w'=>e=.returned (.bool r)∧Below w.heap.size w w':=by
 have hu91:=Try.underlying91
 have HR0_4:=Aside0.mk hr0_4
 have HC0_4:=Aside0.mk hc0_4;clear hr0_4 hc0_4;have HB:=Aside0.mk (Below.refl w.heap.size w)
 have H:((bitmap_within.f a0_0 0 999).bind fun t207=>(if t207=true then ((bitmap_within.f a0_1 0 999).bind fun t208=>(if t208=true then ((bitmap_within.f a0_2 1 64).bind fun t209=>(if t209=true then ((bitmap_within.f a0_3 1 64).bind fun t210=>(some t210)) else (some false))) else (some false))) else (some false)))=some r:=h
 clear h
 replace H:=Option.bind_eq_some_iff.mp H
 obtain ⟨t207,A20,H⟩:=H
 replace H:(if t207=true then ((bitmap_within.f a0_1 0 999).bind fun t208=>(if t208=true then ((bitmap_within.f a0_2 1 64).bind fun t209=>(if t209=true then ((bitmap_within.f a0_3 1 64).bind fun t210=>(some t210)) else (some false))) else (some false))) else (some false))=some r:=H
 have A2:=Aside0.mk A20;clear A20
 by_cases c3:t207=true
 · subst c3
   have H1:((bitmap_within.f a0_1 0 999).bind fun t208=>(if t208=true then ((bitmap_within.f a0_2 1 64).bind fun t209=>(if t209=true then ((bitmap_within.f a0_3 1 64).bind fun t210=>(some t210)) else (some false))) else (some false)))=some r:=by rw [if_pos rfl] at H;exact H
   clear H
   have H:=H1;clear H1
   replace H:=Option.bind_eq_some_iff.mp H
   obtain ⟨t208,A40,H⟩:=H
   replace H:(if t208=true then ((bitmap_within.f a0_2 1 64).bind fun t209=>(if t209=true then ((bitmap_within.f a0_3 1 64).bind fun t210=>(some t210)) else (some false))) else (some false))=some r:=H
   have A4:=Aside0.mk A40;clear A40
   by_cases c5:t208=true
   · subst c5
     have H1:((bitmap_within.f a0_2 1 64).bind fun t209=>(if t209=true then ((bitmap_within.f a0_3 1 64).bind fun t210=>(some t210)) else (some false)))=some r:=by rw [if_pos rfl] at H;exact H
     clear H
     have H:=H1;clear H1
     replace H:=Option.bind_eq_some_iff.mp H
     obtain ⟨t209,A60,H⟩:=H
     replace H:(if t209=true then ((bitmap_within.f a0_3 1 64).bind fun t210=>(some t210)) else (some false))=some r:=H
     have A6:=Aside0.mk A60;clear A60
     by_cases c7:t209=true
     · subst c7
       have H1:((bitmap_within.f a0_3 1 64).bind fun t210=>(some t210))=some r:=by rw [if_pos rfl] at H;exact H
       clear H
       have H:=H1;clear H1
       replace H:=Option.bind_eq_some_iff.mp H
       obtain ⟨t210,A80,H⟩:=H
       replace H:(some t210)=some r:=H
       have A8:=Aside0.mk A80;clear A80
       obtain rfl:=Option.some.inj H
       go_enter Try.func58,Try.ntmps58
       go_wp2_with (first|((with_reducible refine gate_dst (N:=1) rfl ?_);refine box_event ?hg (N:=1) ?hd (cs:=#[.int .i64 a0_0,.int .i64 a0_1,.int .i64 a0_2,.int .i64 a0_3,.slice A0_4 l0_4.length c0_4]) (t:=91) ?hr ?_;(case hd=>rfl);(case hg=>rfl);(case hr=>first|(go_simp;done)|(go_simp;rfl));intro gb206 hg w9 hbox hb;have n0_:=Aside0.mk (below_step (belV HB.out) hb);have n1_:=Aside0.mk (hbox);have n2_:=Aside0.mk ((by rw [hg];exact (below_size (belV HB.out)):w.heap.size≤gb206));have n3_:=Aside0.mk ((by rw [hg];exact (below_size (belV HB.out)):w.heap.size≤gb206));clear HB;have HB:=n0_;have BK206:=n1_;have GW206:=n2_;have GE206:=n3_;clear n0_ n1_ n2_ n3_;clear hb hbox hg;obtain ⟨hcz10_0,hcz10_1,hcz10_2,hcz10_3,hcz10_4,hfz10_0,hfz10_1,hfz10_2,hfz10_3,hfz10_4⟩:=bcells5 BK206.out)|((with_reducible refine gate_callee (f:=47) rfl ?_);refine goesL_ (some 5) rfl rfl Try.func47 (by kernel_rfl) rfl #[.int .i64 a0_0,.int .i64 0,.int .i64 999] rfl (by (try simp only [List.map_toArray,List.map_cons,List.map_nil]);first|done|rfl|(simp only [List.length_drop,List.length_take];rfl)) ?_;(with_reducible refine (bitmap_within.calls a0_0 0 999 true _ A2.out).mono ?_);rintro e w' ⟨rfl,⟨nd,rfl⟩⟩;refine ⟨_,rfl,?_⟩)|(go_at_call 47;(with_reducible refine (bitmap_within.calls a0_1 0 999 true _ A4.out).mono ?_);rintro e w' ⟨rfl,⟨nd,rfl⟩⟩)|(go_at_call 47;(with_reducible refine (bitmap_within.calls a0_2 1 64 true _ A6.out).mono ?_);rintro e w' ⟨rfl,⟨nd,rfl⟩⟩)|(go_at_call 47;(with_reducible refine (bitmap_within.calls a0_3 1 64 t210 _ A8.out).mono ?_);rintro e w' ⟨rfl,⟨nd,rfl⟩⟩))
       go_ret
       exact ⟨by first|rfl|(simp [errW_none,errW_some] <;> rfl)|(simp [*,errW_none,errW_some] <;> rfl),by repeat (first|(with_reducible first|exact HB.out|apply below_alloc|apply pw_below_drewN|apply below_drew1|refine below_set ?_ GE206.out)|exact HB.out)⟩
     replace c7:=Bool.eq_false_iff.mpr c7;subst c7
     have H1:(some false)=some r:=by rw [if_neg (show ¬ (false=true) by decide)] at H;exact H
     clear H
     have H:=H1;clear H1
     obtain rfl:=Option.some.inj H
     go_enter Try.func58,Try.ntmps58
     go_wp2_with (first|((with_reducible refine gate_dst (N:=1) rfl ?_);refine box_event ?hg (N:=1) ?hd (cs:=#[.int .i64 a0_0,.int .i64 a0_1,.int .i64 a0_2,.int .i64 a0_3,.slice A0_4 l0_4.length c0_4]) (t:=91) ?hr ?_;(case hd=>rfl);(case hg=>rfl);(case hr=>first|(go_simp;done)|(go_simp;rfl));intro gb206 hg w11 hbox hb;have n0_:=Aside0.mk (below_step (belV HB.out) hb);have n1_:=Aside0.mk (hbox);have n2_:=Aside0.mk ((by rw [hg];exact (below_size (belV HB.out)):w.heap.size≤gb206));have n3_:=Aside0.mk ((by rw [hg];exact (below_size (belV HB.out)):w.heap.size≤gb206));clear HB;have HB:=n0_;have BK206:=n1_;have GW206:=n2_;have GE206:=n3_;clear n0_ n1_ n2_ n3_;clear hb hbox hg;obtain ⟨hcz12_0,hcz12_1,hcz12_2,hcz12_3,hcz12_4,hfz12_0,hfz12_1,hfz12_2,hfz12_3,hfz12_4⟩:=bcells5 BK206.out)|((with_reducible refine gate_callee (f:=47) rfl ?_);refine goesL_ (some 5) rfl rfl Try.func47 (by kernel_rfl) rfl #[.int .i64 a0_0,.int .i64 0,.int .i64 999] rfl (by (try simp only [List.map_toArray,List.map_cons,List.map_nil]);first|done|rfl|(simp only [List.length_drop,List.length_take];rfl)) ?_;(with_reducible refine (bitmap_within.calls a0_0 0 999 true _ A2.out).mono ?_);rintro e w' ⟨rfl,⟨nd,rfl⟩⟩;refine ⟨_,rfl,?_⟩)|(go_at_call 47;(with_reducible refine (bitmap_within.calls a0_1 0 999 true _ A4.out).mono ?_);rintro e w' ⟨rfl,⟨nd,rfl⟩⟩)|(go_at_call 47;(with_reducible refine (bitmap_within.calls a0_2 1 64 false _ A6.out).mono ?_);rintro e w' ⟨rfl,⟨nd,rfl⟩⟩))
     go_ret
     exact ⟨by first|rfl|(simp [errW_none,errW_some] <;> rfl)|(simp [*,errW_none,errW_some] <;> rfl),by repeat (first|(with_reducible first|exact HB.out|apply below_alloc|apply pw_below_drewN|apply below_drew1|refine below_set ?_ GE206.out)|exact HB.out)⟩
   replace c5:=Bool.eq_false_iff.mpr c5;subst c5
   have H1:(some false)=some r:=by rw [if_neg (show ¬ (false=true) by decide)] at H;exact H
   clear H
   have H:=H1;clear H1
   obtain rfl:=Option.some.inj H
   go_enter Try.func58,Try.ntmps58
   go_wp2_with (first|((with_reducible refine gate_dst (N:=1) rfl ?_);refine box_event ?hg (N:=1) ?hd (cs:=#[.int .i64 a0_0,.int .i64 a0_1,.int .i64 a0_2,.int .i64 a0_3,.slice A0_4 l0_4.length c0_4]) (t:=91) ?hr ?_;(case hd=>rfl);(case hg=>rfl);(case hr=>first|(go_simp;done)|(go_simp;rfl));intro gb206 hg w13 hbox hb;have n0_:=Aside0.mk (below_step (belV HB.out) hb);have n1_:=Aside0.mk (hbox);have n2_:=Aside0.mk ((by rw [hg];exact (below_size (belV HB.out)):w.heap.size≤gb206));have n3_:=Aside0.mk ((by rw [hg];exact (below_size (belV HB.out)):w.heap.size≤gb206));clear HB;have HB:=n0_;have BK206:=n1_;have GW206:=n2_;have GE206:=n3_;clear n0_ n1_ n2_ n3_;clear hb hbox hg;obtain ⟨hcz14_0,hcz14_1,hcz14_2,hcz14_3,hcz14_4,hfz14_0,hfz14_1,hfz14_2,hfz14_3,hfz14_4⟩:=bcells5 BK206.out)|((with_reducible refine gate_callee (f:=47) rfl ?_);refine goesL_ (some 5) rfl rfl Try.func47 (by kernel_rfl) rfl #[.int .i64 a0_0,.int .i64 0,.int .i64 999] rfl (by (try simp only [List.map_toArray,List.map_cons,List.map_nil]);first|done|rfl|(simp only [List.length_drop,List.length_take];rfl)) ?_;(with_reducible refine (bitmap_within.calls a0_0 0 999 true _ A2.out).mono ?_);rintro e w' ⟨rfl,⟨nd,rfl⟩⟩;refine ⟨_,rfl,?_⟩)|(go_at_call 47;(with_reducible refine (bitmap_within.calls a0_1 0 999 false _ A4.out).mono ?_);rintro e w' ⟨rfl,⟨nd,rfl⟩⟩))
   go_ret
   exact ⟨by first|rfl|(simp [errW_none,errW_some] <;> rfl)|(simp [*,errW_none,errW_some] <;> rfl),by repeat (first|(with_reducible first|exact HB.out|apply below_alloc|apply pw_below_drewN|apply below_drew1|refine below_set ?_ GE206.out)|exact HB.out)⟩
 replace c3:=Bool.eq_false_iff.mpr c3;subst c3
 have H1:(some false)=some r:=by rw [if_neg (show ¬ (false=true) by decide)] at H;exact H
 clear H
 have H:=H1;clear H1
 obtain rfl:=Option.some.inj H
 go_enter Try.func58,Try.ntmps58
 go_wp2_with (first|((with_reducible refine gate_dst (N:=1) rfl ?_);refine box_event ?hg (N:=1) ?hd (cs:=#[.int .i64 a0_0,.int .i64 a0_1,.int .i64 a0_2,.int .i64 a0_3,.slice A0_4 l0_4.length c0_4]) (t:=91) ?hr ?_;(case hd=>rfl);(case hg=>rfl);(case hr=>first|(go_simp;done)|(go_simp;rfl));intro gb206 hg w15 hbox hb;have n0_:=Aside0.mk (below_step (belV HB.out) hb);have n1_:=Aside0.mk (hbox);have n2_:=Aside0.mk ((by rw [hg];exact (below_size (belV HB.out)):w.heap.size≤gb206));have n3_:=Aside0.mk ((by rw [hg];exact (below_size (belV HB.out)):w.heap.size≤gb206));clear HB;have HB:=n0_;have BK206:=n1_;have GW206:=n2_;have GE206:=n3_;clear n0_ n1_ n2_ n3_;clear hb hbox hg;obtain ⟨hcz16_0,hcz16_1,hcz16_2,hcz16_3,hcz16_4,hfz16_0,hfz16_1,hfz16_2,hfz16_3,hfz16_4⟩:=bcells5 BK206.out)|((with_reducible refine gate_callee (f:=47) rfl ?_);refine goesL_ (some 5) rfl rfl Try.func47 (by kernel_rfl) rfl #[.int .i64 a0_0,.int .i64 0,.int .i64 999] rfl (by (try simp only [List.map_toArray,List.map_cons,List.map_nil]);first|done|rfl|(simp only [List.length_drop,List.length_take];rfl)) ?_;(with_reducible refine (bitmap_within.calls a0_0 0 999 false _ A2.out).mono ?_);rintro e w' ⟨rfl,⟨nd,rfl⟩⟩;refine ⟨_,rfl,?_⟩))
 go_ret
 exact ⟨by first|rfl|(simp [errW_none,errW_some] <;> rfl)|(simp [*,errW_none,errW_some] <;> rfl),by repeat (first|(with_reducible first|exact HB.out|apply below_alloc|apply pw_below_drewN|apply below_drew1|refine below_set ?_ GE206.out)|exact HB.out)⟩

/-! ### bitmap_checkPatch_1: function 89 -/
def bitmap_checkPatch_1.f (a0 : Int) : Option (Bool) := (bitmap_within.f a0 0 15).bind fun t211 => (some (!t211))
set_option maxHeartbeats 8000000 in
set_option maxRecDepth 100000 in
theorem bitmap_checkPatch_1.calls (a0 : Int) (r : Bool) (w : World) (h : bitmap_checkPatch_1.f a0 = some r) :
    Calls Try.prog 89 #[.int .i64 a0] w fun e w' => e = .returned (.bool r) ∧ Drawn0 w w' := by
  have H : ((bitmap_within.f a0 0 15).bind fun t211 => (some (!t211))) = some r := h
  clear h
  replace H := Option.bind_eq_some_iff.mp H
  obtain ⟨t211, A20, H⟩ := H
  replace H : (some (!t211)) = some r := H
  have A2 := Aside0.mk A20
  clear A20
  obtain rfl := Option.some.inj H
  go_enter Try.func89, Try.ntmps89
  go_wp2_with (first | ((with_reducible refine gate_callee (f := 47) rfl ?_); refine goesL_ (some 4) rfl rfl Try.func47 (by kernel_rfl) rfl #[.int .i64 a0, .int .i64 0, .int .i64 15] rfl (by (try simp only [List.map_toArray, List.map_cons, List.map_nil]); first | done | rfl | (simp only [List.length_drop, List.length_take]; rfl)) ?_; (with_reducible refine (bitmap_within.calls a0 0 15 t211 _ A2.out).mono ?_); rintro e w' ⟨rfl, ⟨nd, rfl⟩⟩; refine ⟨_, rfl, ?_⟩))
  go_ret
  exact ⟨by first | rfl | (simp; done) | (simp [*]; done), by repeat (first | exact Drawn0.refl _ | apply Drawn0.step)⟩

/-! ### slices_IndexFunc_int_int__89: function 83 -/
def slices_IndexFunc_int_int__89.l0 : Nat → List Int → Int → Int → Option (Int)
 | 0,_,_,_=>none
 | k+1,x0,x7,x8=>if x8 < x7 then (if 0≤x8 then (if x8 < (x0.length:Int) then ((bitmap_checkPatch_1.f (rd x0 x8)).bind fun t213=>(if t213=true then (some x8) else (slices_IndexFunc_int_int__89.l0 k x0 x7 (wrap64 (x8+1))))) else (none)) else (none)) else (some (-1))
def slices_IndexFunc_int_int__89.f (k : Nat) (l0 : List Int)  : Option (Int) := slices_IndexFunc_int_int__89.l0 k l0 (l0.length : Int) 0
theorem slices_IndexFunc_int_int__89.mono_l:∀ k,(∀ y0 y1 y2,LeO (slices_IndexFunc_int_int__89.l0 k y0 y1 y2) (slices_IndexFunc_int_int__89.l0 (k+1) y0 y1 y2))
 | 0=>fun _ _ _ r h=>by simp [slices_IndexFunc_int_int__89.l0] at h
 | k+1=>by
  have ih0:=slices_IndexFunc_int_int__89.mono_l k
  · intro y0 y1 y2
    unfold slices_IndexFunc_int_int__89.l0
    repeat' first
    | (with_reducible exact ih0 _ _ _)
    | (with_reducible exact LeO.refl _)
    | (with_reducible exact LeO.none _)
    | (with_reducible refine LeO.ite ?_ ?_)
    | (with_reducible refine LeO.bind ?_ (fun _=>?_))
    | exact LeO.none _
    | refine LeO.ite ?_ ?_
    | refine LeO.bind ?_ (fun _=>?_)
theorem slices_IndexFunc_int_int__89.mono:∀ a0 k,LeO (slices_IndexFunc_int_int__89.f k a0) (slices_IndexFunc_int_int__89.f (k+1) a0):=by
 intro a0 k
 have ih0:=slices_IndexFunc_int_int__89.mono_l k
 unfold slices_IndexFunc_int_int__89.f
 repeat' first
  | (with_reducible exact ih0 _ _ _)
  | (with_reducible exact LeO.refl _)
  | (with_reducible exact LeO.none _)
  | (with_reducible refine LeO.ite ?_ ?_)
  | (with_reducible refine LeO.bind ?_ (fun _=>?_))
  | exact LeO.none _
  | refine LeO.ite ?_ ?_
  | refine LeO.bind ?_ (fun _=>?_)
set_option maxHeartbeats 8000000 in
set_option maxRecDepth 100000 in
theorem slices_IndexFunc_int_int__89.calls (k:Nat) (A0:Option Addr) (c0:Nat) (l0:List Int)  (r:Int) (w:World) (hr0:Kd.C (Kd.int .i64) w A0 l0.length l0) (hc0:l0.length≤c0) (h:slices_IndexFunc_int_int__89.f k l0=some r) :
 Calls Try.prog 83 #[.slice A0 l0.length c0,.func (.func 89) #[] #[]] w fun e w'=>e=.returned (.int .i64 r)∧Drawn0 w w':=by
 have HR0:=Aside0.mk hr0
 have HC0:=Aside0.mk hc0;clear hr0 hc0
 have H:(slices_IndexFunc_int_int__89.l0 k l0 (l0.length:Int) 0)=some r:=h;clear h
 have H':=Aside0.mk H;clear H
 go_enter Try.func83,Try.ntmps83
 go_wp2
 go_loopg [8] k (fun kq v8 w'=>∃ (x8_1:Int),v8=.int .i64 x8_1∧Aside0 (slices_IndexFunc_int_int__89.l0 kq l0 (l0.length:Int) x8_1=some r)∧Aside0 (kq≤k)∧Drawn0 w w')
 case atStart=>exact ⟨(0),okV,H',⟨Nat.le_refl _⟩,by repeat (first|exact Drawn0.refl _|apply Drawn0.step)⟩
 case round =>
  clear H'
  try clear p2
  obtain ⟨x8_1,rfl,HA,HK1,⟨m1,rfl⟩⟩:=hrel
  cases gk with
  | zero=>exact absurd HA.out (by simp [slices_IndexFunc_int_int__89.l0])
  | succ k1 =>
   have H:=HA.out;clear HA
   simp only [slices_IndexFunc_int_int__89.l0] at H
   by_cases c3:x8_1 < (l0.length:Int)
   · rw [if_pos c3] at H
     have c3b0:decide (x8_1 < (l0.length:Int))=true:=decide_eq_true c3;clear c3
     by_cases c4:0≤x8_1
     · rw [if_pos c4] at H
       have c4b0:decide (0≤x8_1)=true:=decide_eq_true c4;clear c4
       by_cases c5:x8_1 < (l0.length:Int)
       · rw [if_pos c5] at H
         have c5b0:decide (x8_1 < (l0.length:Int))=true:=decide_eq_true c5;clear c5
         replace H:=Option.bind_eq_some_iff.mp H
         obtain ⟨t213,A60,H⟩:=H
         replace H:(if t213=true then (some x8_1) else (slices_IndexFunc_int_int__89.l0 k1 l0 (l0.length:Int) (wrap64 (x8_1+1))))=some r:=H
         have A6:=Aside0.mk A60;clear A60
         by_cases c7:t213=true
         · subst c7
           have H1:(some x8_1)=some r:=by rw [if_pos rfl] at H;exact H
           clear H
           have H:=H1;clear H1
           obtain rfl:=Option.some.inj H
           have p212:0≤(x8_1:Int):=of_decide_eq_true asV
           have q212:x8_1 < (l0.length:Int):=of_decide_eq_true asV
           obtain ⟨ad212,e212,hx212_0⟩:=Kd.at_int HR0.out x8_1 p212 q212
           cases e212
           replace p212:=eq_true p212
           replace q212:=eq_true q212
           go_wp2_with (first|(go_at_call 89;(with_reducible refine (bitmap_checkPatch_1.calls (rd l0 x8_1) true _ A6.out).mono ?_);rintro e w' ⟨rfl,⟨nd,rfl⟩⟩))
           go_ret
           exact ⟨by first|rfl|(simp;done)|(simp [*];done),by repeat (first|exact Drawn0.refl _|apply Drawn0.step)⟩
         replace c7:=Bool.eq_false_iff.mpr c7;subst c7
         have H1:(slices_IndexFunc_int_int__89.l0 k1 l0 (l0.length:Int) (wrap64 (x8_1+1)))=some r:=by rw [if_neg (show ¬ (false=true) by decide)] at H;exact H
         clear H
         have H:=H1;clear H1
         have H':=Aside0.mk H;clear H
         have p212:0≤(x8_1:Int):=of_decide_eq_true asV
         have q212:x8_1 < (l0.length:Int):=of_decide_eq_true asV
         obtain ⟨ad212,e212,hx212_0⟩:=Kd.at_int HR0.out x8_1 p212 q212
         cases e212
         replace p212:=eq_true p212
         replace q212:=eq_true q212
         go_wp2_with (first|(go_at_call 89;(with_reducible refine (bitmap_checkPatch_1.calls (rd l0 x8_1) false _ A6.out).mono ?_);rintro e w' ⟨rfl,⟨nd,rfl⟩⟩))
         go_roundg k1
         case measure=>have:=HK1.out;omega
         case rel=>exact ⟨(wrap64 (x8_1+1)),okV,H',⟨by have:=HK1.out;omega⟩,by repeat (first|exact Drawn0.refl _|apply Drawn0.step)⟩
       rw [if_neg c5] at H
       exact absurd H (by simp)
     rw [if_neg c4] at H
     exact absurd H (by simp)
   rw [if_neg c3] at H
   have c3b0:decide (x8_1 < (l0.length:Int))=false:=decide_eq_false c3;clear c3
   obtain rfl:=Option.some.inj H
   go_wp2
   go_ret
   exact ⟨by first|rfl|(simp;done)|(simp [*];done),by repeat (first|exact Drawn0.refl _|apply Drawn0.step)⟩

/-! ### slices_ContainsFunc_int_int__89: function 48 -/
def slices_ContainsFunc_int_int__89.f (k : Nat) (l0 : List Int)  : Option (Bool) := (slices_IndexFunc_int_int__89.f k l0).bind fun t214 => (some (decide (t214 ≥ 0)))
theorem slices_ContainsFunc_int_int__89.mono : ∀ a0 k, LeO (slices_ContainsFunc_int_int__89.f k a0) (slices_ContainsFunc_int_int__89.f (k + 1) a0) := by
  intro a0 k
  unfold slices_ContainsFunc_int_int__89.f
  repeat' first
      | (with_reducible exact slices_IndexFunc_int_int__89.mono _ _)
      | (with_reducible exact LeO.refl _)
      | (with_reducible exact LeO.none _)
      | (with_reducible refine LeO.ite ?_ ?_)
      | (with_reducible refine LeO.bind ?_ (fun _ => ?_))
      | exact slices_IndexFunc_int_int__89.mono _ _
      | exact LeO.none _
      | refine LeO.ite ?_ ?_
      | refine LeO.bind ?_ (fun _ => ?_)
set_option maxHeartbeats 8000000 in
set_option maxRecDepth 100000 in
theorem slices_ContainsFunc_int_int__89.calls (k : Nat) (A0 : Option Addr) (c0 : Nat) (l0 : List Int)  (r : Bool) (w : World) (hr0 : Kd.C (Kd.int .i64) w A0 l0.length l0) (hc0 : l0.length ≤ c0) (h : slices_ContainsFunc_int_int__89.f k l0 = some r) :
    Calls Try.prog 48 #[.slice A0 l0.length c0, .func (.func 89) #[] #[]] w fun e w' => e = .returned (.bool r) ∧ Drawn0 w w' := by
  have HR0 := Aside0.mk hr0
  have HC0 := Aside0.mk hc0
  clear hr0 hc0
  have H : ((slices_IndexFunc_int_int__89.f k l0).bind fun t214 => (some (decide (t214 ≥ 0)))) = some r := h
  clear h
  replace H := Option.bind_eq_some_iff.mp H
  obtain ⟨t214, A30, H⟩ := H
  replace H : (some (decide (t214 ≥ 0))) = some r := H
  have A3 := Aside0.mk A30
  clear A30
  obtain rfl := Option.some.inj H
  go_enter Try.func48, Try.ntmps48
  go_wp2_with (first | ((with_reducible refine gate_callee (f := 83) rfl ?_); refine goesL_ (some 7) rfl rfl Try.func83 (by kernel_rfl) rfl #[.slice A0 l0.length c0, .func (.func 89) #[] #[]] rfl (by (try simp only [List.map_toArray, List.map_cons, List.map_nil]); first | done | rfl | (simp only [List.length_drop, List.length_take]; rfl)) ?_; (with_reducible refine (slices_IndexFunc_int_int__89.calls k _ _ l0  t214 _ ?side1 ?side2 A3.out).mono ?_); (case side1 => repeat (first | exact HR0.out | (with_reducible refine Kd.C_alloc ?_ _) | (with_reducible refine Kd.C_drewN ?_ _) | (with_reducible refine Kd.C_drew ?_))); (case side2 => exact HC0.out); rintro e w' ⟨rfl, ⟨nd, rfl⟩⟩; refine ⟨_, rfl, ?_⟩))
  go_ret
  exact ⟨by first | rfl | (simp; done) | (simp [*]; done), by repeat (first | exact Drawn0.refl _ | apply Drawn0.step)⟩

/-! ### bitmap_checkPatch: function 72 -/
def bitmap_checkPatch.j0 : Nat → Bool → Int → Int → Int → Int → List Int → Option (Int)
 | 0,_,_,_,_,_,_=>none
 | k+1,x10,x216000,x216001,x216002,x216003,x216004=>if x10=true then (some 1) else (if (x216004.length:Int)=(wrap64 (x216002*x216003)) then (some 0) else (some 4))
def bitmap_checkPatch.f (k : Nat) (a0_0 : Int) (a0_1 : Int) (a0_2 : Int) (a0_3 : Int) (l0_4 : List Int) : Option (Int) := (bitmap_place.f a0_0 a0_1 a0_2 a0_3 l0_4).bind fun t216 => (if t216 = true then ((slices_ContainsFunc_int_int__89.f k l0_4).bind fun t217 => (bitmap_checkPatch.j0 k t217 a0_0 a0_1 a0_2 a0_3 l0_4)) else (bitmap_checkPatch.j0 k true a0_0 a0_1 a0_2 a0_3 l0_4))
theorem bitmap_checkPatch.mono_l:∀ k,(∀ y0 y1 y2 y3 y4 y5,LeO (bitmap_checkPatch.j0 k y0 y1 y2 y3 y4 y5) (bitmap_checkPatch.j0 (k+1) y0 y1 y2 y3 y4 y5))
 | 0=>fun _ _ _ _ _ _ r h=>by simp [bitmap_checkPatch.j0] at h
 | k+1=>by
  have ih0:=bitmap_checkPatch.mono_l k
  · intro y0 y1 y2 y3 y4 y5
    unfold bitmap_checkPatch.j0
    repeat' first
    | (with_reducible exact ih0 _ _ _ _ _ _)
    | (with_reducible exact slices_ContainsFunc_int_int__89.mono _ _)
    | (with_reducible exact LeO.refl _)
    | (with_reducible exact LeO.none _)
    | (with_reducible refine LeO.ite ?_ ?_)
    | (with_reducible refine LeO.bind ?_ (fun _=>?_))
    | exact LeO.none _
    | refine LeO.ite ?_ ?_
    | refine LeO.bind ?_ (fun _=>?_)
theorem bitmap_checkPatch.mono:∀ a0 a1 a2 a3 a4 k,LeO (bitmap_checkPatch.f k a0 a1 a2 a3 a4) (bitmap_checkPatch.f (k+1) a0 a1 a2 a3 a4):=by
 intro a0 a1 a2 a3 a4 k
 have ih0:=bitmap_checkPatch.mono_l k
 unfold bitmap_checkPatch.f
 repeat' first
  | (with_reducible exact ih0 _ _ _ _ _ _)
  | (with_reducible exact slices_ContainsFunc_int_int__89.mono _ _)
  | (with_reducible exact LeO.refl _)
  | (with_reducible exact LeO.none _)
  | (with_reducible refine LeO.ite ?_ ?_)
  | (with_reducible refine LeO.bind ?_ (fun _=>?_))
  | exact LeO.none _
  | refine LeO.ite ?_ ?_
  | refine LeO.bind ?_ (fun _=>?_)
set_option maxHeartbeats 8000000 in
set_option maxRecDepth 100000 in
theorem bitmap_checkPatch.calls (k:Nat) (a0_0:Int) (a0_1:Int) (a0_2:Int) (a0_3:Int) (A0_4:Option Addr) (c0_4:Nat) (l0_4:List Int) (r:Int) (w:World) (hr0_4:Kd.C (Kd.int .i64) w A0_4 l0_4.length l0_4) (hc0_4:l0_4.length≤c0_4) (h:bitmap_checkPatch.f k a0_0 a0_1 a0_2 a0_3 l0_4=some r) :
 Calls Try.prog 72 #[.agg #[.int .i64 a0_0,.int .i64 a0_1,.int .i64 a0_2,.int .i64 a0_3,.slice A0_4 l0_4.length c0_4]] w fun e w'=>e=.returned (.int .i64 r)∧Below w.heap.size w w':=by
 have hu91:=Try.underlying91
 have HR0_4:=Aside0.mk hr0_4
 have HC0_4:=Aside0.mk hc0_4;clear hr0_4 hc0_4;have HB:=Aside0.mk (Below.refl w.heap.size w)
 have H:((bitmap_place.f a0_0 a0_1 a0_2 a0_3 l0_4).bind fun t216=>(if t216=true then ((slices_ContainsFunc_int_int__89.f k l0_4).bind fun t217=>(bitmap_checkPatch.j0 k t217 a0_0 a0_1 a0_2 a0_3 l0_4)) else (bitmap_checkPatch.j0 k true a0_0 a0_1 a0_2 a0_3 l0_4)))=some r:=h;clear h
 have HC2:=Aside0.mk H;clear H
 go_enter Try.func72,Try.ntmps72
 go_upto_region 1 with (first|((with_reducible refine gate_dst (N:=1) rfl ?_);refine box_event ?hg (N:=1) ?hd (cs:=#[.int .i64 a0_0,.int .i64 a0_1,.int .i64 a0_2,.int .i64 a0_3,.slice A0_4 l0_4.length c0_4]) (t:=91) ?hr ?_;(case hd=>rfl);(case hg=>rfl);(case hr=>first|(go_simp;done)|(go_simp;rfl));intro gb215 hg w3 hbox hb;have n0_:=Aside0.mk (below_step (belV HB.out) hb);have n1_:=Aside0.mk (hbox);have n2_:=Aside0.mk ((by rw [hg];exact (below_size (belV HB.out)):w.heap.size≤gb215));have n3_:=Aside0.mk ((by rw [hg];exact (below_size (belV HB.out)):w.heap.size≤gb215));clear HB;have HB:=n0_;have BK215:=n1_;have GW215:=n2_;have GE215:=n3_;clear n0_ n1_ n2_ n3_;clear hb hbox hg))
 (try simp only [Act.put,List.setIfInBounds_toArray,List.set_cons_zero,List.set_cons_succ])
 go_cut [10] (fun v10 wc=>∃ (kq:Nat) (x10_1:Bool),v10=.bool x10_1∧Aside0 (bitmap_checkPatch.j0 kq x10_1 a0_0 a0_1 a0_2 a0_3 l0_4=some r)∧Aside0 (kq≤k)∧Aside0 (wc.heap[gb215]?=some (.cells #[.int .i64 a0_0,.int .i64 a0_1,.int .i64 a0_2,.int .i64 a0_3,(.slice A0_4 l0_4.length c0_4)] 91 (0,0)))∧Aside0 (Below w.heap.size w wc))
 case first =>
  have H:=HC2.out;clear HC2
  replace H:=Option.bind_eq_some_iff.mp H
  obtain ⟨t216,A40,H⟩:=H
  replace H:(if t216=true then ((slices_ContainsFunc_int_int__89.f k l0_4).bind fun t217=>(bitmap_checkPatch.j0 k t217 a0_0 a0_1 a0_2 a0_3 l0_4)) else (bitmap_checkPatch.j0 k true a0_0 a0_1 a0_2 a0_3 l0_4))=some r:=H
  have A4:=Aside0.mk A40;clear A40
  by_cases c5:t216=true
  · subst c5
    have H1:((slices_ContainsFunc_int_int__89.f k l0_4).bind fun t217=>(bitmap_checkPatch.j0 k t217 a0_0 a0_1 a0_2 a0_3 l0_4))=some r:=by rw [if_pos rfl] at H;exact H
    clear H
    have H:=H1;clear H1
    replace H:=Option.bind_eq_some_iff.mp H
    obtain ⟨t217,A60,H⟩:=H
    replace H:(bitmap_checkPatch.j0 k t217 a0_0 a0_1 a0_2 a0_3 l0_4)=some r:=H
    have A6:=Aside0.mk A60;clear A60
    have H':=Aside0.mk H;clear H
    obtain ⟨hcz7_0,hcz7_1,hcz7_2,hcz7_3,hcz7_4,hfz7_0,hfz7_1,hfz7_2,hfz7_3,hfz7_4⟩:=bcells5 BK215.out
    go_wp2_with (first|((with_reducible refine gate_callee (f:=58) rfl ?_);refine goesL_ (some 4) rfl rfl Try.func58 (by kernel_rfl) rfl #[.agg #[.int .i64 a0_0,.int .i64 a0_1,.int .i64 a0_2,.int .i64 a0_3,.slice A0_4 l0_4.length c0_4]] rfl (by (try simp only [List.map_toArray,List.map_cons,List.map_nil]);first|done|rfl|(simp only [List.length_drop,List.length_take];rfl)) ?_;(with_reducible refine (bitmap_place.calls a0_0 a0_1 a0_2 a0_3 _ _ l0_4 true _ ?side1 ?side2 A4.out).mono ?_);(case side1=>exact cV (Kd.C_below HR0_4.out HB.out));(case side2=>exact HC0_4.out);rintro e w8 ⟨rfl,hb⟩;refine ⟨_,rfl,?_⟩;have n0_:=Aside0.mk (blk_below (g:=gb215) (blkV BK215.out) hb);have n1_:=Aside0.mk (below_step (belV1 HB.out GE215.out) hb);clear BK215;clear HB;have BK215:=n0_;have HB:=n1_;clear n0_ n1_;(try clear hb);(try clear hb2);(try clear hk);(try clear hi);obtain ⟨hcz9_0,hcz9_1,hcz9_2,hcz9_3,hcz9_4,hfz9_0,hfz9_1,hfz9_2,hfz9_3,hfz9_4⟩:=bcells5 BK215.out)|(go_at_call 48;(with_reducible refine (slices_ContainsFunc_int_int__89.calls k _ _ l0_4  t217 _ ?side1 ?side2 A6.out).mono ?_);(case side1=>exact cV (Kd.C_below HR0_4.out HB.out));(case side2=>exact HC0_4.out);rintro e w' ⟨rfl,⟨nd,rfl⟩⟩))
    go_meet
    case rel=>exact ⟨_,(t217),okV,H',⟨by first|omega|exact Nat.le_refl _⟩,⟨blkV BK215.out⟩,⟨belV1 HB.out GE215.out⟩⟩
  replace c5:=Bool.eq_false_iff.mpr c5;subst c5
  have H1:(bitmap_checkPatch.j0 k true a0_0 a0_1 a0_2 a0_3 l0_4)=some r:=by rw [if_neg (show ¬ (false=true) by decide)] at H;exact H
  clear H
  have H:=H1;clear H1
  have H':=Aside0.mk H;clear H
  obtain ⟨hcz10_0,hcz10_1,hcz10_2,hcz10_3,hcz10_4,hfz10_0,hfz10_1,hfz10_2,hfz10_3,hfz10_4⟩:=bcells5 BK215.out
  go_wp2_with (first|((with_reducible refine gate_callee (f:=58) rfl ?_);refine goesL_ (some 4) rfl rfl Try.func58 (by kernel_rfl) rfl #[.agg #[.int .i64 a0_0,.int .i64 a0_1,.int .i64 a0_2,.int .i64 a0_3,.slice A0_4 l0_4.length c0_4]] rfl (by (try simp only [List.map_toArray,List.map_cons,List.map_nil]);first|done|rfl|(simp only [List.length_drop,List.length_take];rfl)) ?_;(with_reducible refine (bitmap_place.calls a0_0 a0_1 a0_2 a0_3 _ _ l0_4 false _ ?side1 ?side2 A4.out).mono ?_);(case side1=>exact cV (Kd.C_below HR0_4.out HB.out));(case side2=>exact HC0_4.out);rintro e w11 ⟨rfl,hb⟩;refine ⟨_,rfl,?_⟩;have n0_:=Aside0.mk (blk_below (g:=gb215) (blkV BK215.out) hb);have n1_:=Aside0.mk (below_step (belV1 HB.out GE215.out) hb);clear BK215;clear HB;have BK215:=n0_;have HB:=n1_;clear n0_ n1_;(try clear hb);(try clear hb2);(try clear hk);(try clear hi)))
  go_meet
  case rel=>exact ⟨_,(true),okV,H',⟨by first|omega|exact Nat.le_refl _⟩,⟨blkV BK215.out⟩,⟨belV1 HB.out GE215.out⟩⟩
 case rest =>
  clear HC2
  try clear p2;try clear c5;try clear c7;try clear hcz10_0 hcz10_1 hcz10_2 hcz10_3 hcz10_4;try clear hcz7_0 hcz7_1 hcz7_2 hcz7_3 hcz7_4;try clear hcz9_0 hcz9_1 hcz9_2 hcz9_3 hcz9_4;try clear hfz10_0 hfz10_1 hfz10_2 hfz10_3 hfz10_4;try clear hfz7_0 hfz7_1 hfz7_2 hfz7_3 hfz7_4;try clear hfz9_0 hfz9_1 hfz9_2 hfz9_3 hfz9_4
  obtain ⟨kq,x10_1,rfl,HA,HJ1,BK215,HB⟩:=hcut
  cases kq with
  | zero=>exact absurd HA.out (by simp [bitmap_checkPatch.j0])
  | succ kj1 =>
   have H:=HA.out;clear HA
   simp only [bitmap_checkPatch.j0] at H
   by_cases c12:x10_1=true
   · subst c12
     have H1:(some 1)=some r:=by rw [if_pos rfl] at H;exact H
     clear H
     have H:=H1;clear H1
     obtain rfl:=Option.some.inj H
     go_wp2
     go_ret
     exact ⟨by first|rfl|(simp [errW_none,errW_some] <;> rfl)|(simp [*,errW_none,errW_some] <;> rfl),by repeat (first|(with_reducible first|exact HB.out|apply below_alloc|apply pw_below_drewN|apply below_drew1|refine below_set ?_ GE215.out)|exact HB.out)⟩
   replace c12:=Bool.eq_false_iff.mpr c12;subst c12
   have H1:(if (l0_4.length:Int)=(wrap64 (a0_2*a0_3)) then (some 0) else (some 4))=some r:=by rw [if_neg (show ¬ (false=true) by decide)] at H;exact H
   clear H
   have H:=H1;clear H1
   by_cases c13:(l0_4.length:Int)=(wrap64 (a0_2*a0_3))
   · rw [if_pos c13] at H
     have c13b0:((l0_4.length:Int) == (wrap64 (a0_2*a0_3)))=true:=beq_iff_eq.mpr c13
     have c13b1:((l0_4.length:Int) != (wrap64 (a0_2*a0_3)))=false:=bne_eq_false_iff_eq.mpr c13;clear c13
     obtain rfl:=Option.some.inj H
     obtain ⟨hcz14_0,hcz14_1,hcz14_2,hcz14_3,hcz14_4,hfz14_0,hfz14_1,hfz14_2,hfz14_3,hfz14_4⟩:=bcells5 BK215.out
     go_wp2
     go_ret
     exact ⟨by first|rfl|(simp [errW_none,errW_some] <;> rfl)|(simp [*,errW_none,errW_some] <;> rfl),by repeat (first|(with_reducible first|exact HB.out|apply below_alloc|apply pw_below_drewN|apply below_drew1|refine below_set ?_ GE215.out)|exact HB.out)⟩
   rw [if_neg c13] at H
   have c13b0:((l0_4.length:Int) == (wrap64 (a0_2*a0_3)))=false:=beq_eq_false_iff_ne.mpr c13
   have c13b1:((l0_4.length:Int) != (wrap64 (a0_2*a0_3)))=true:=bne_iff_ne.mpr c13
   obtain rfl:=Option.some.inj H
   obtain ⟨hcz15_0,hcz15_1,hcz15_2,hcz15_3,hcz15_4,hfz15_0,hfz15_1,hfz15_2,hfz15_3,hfz15_4⟩:=bcells5 BK215.out
   go_wp2
   go_ret
   exact ⟨by first|rfl|(simp [errW_none,errW_some] <;> rfl)|(simp [*,errW_none,errW_some] <;> rfl),by repeat (first|(with_reducible first|exact HB.out|apply below_alloc|apply pw_below_drewN|apply below_drew1|refine below_set ?_ GE215.out)|exact HB.out)⟩

/-! ### bitmap_Check: function 39 -/
mutual
def bitmap_Check.j0 : Nat → Bool → Bool → List Int → List (S91) → Option (Int)
 | 0,_,_,_,_=>none
 | k+1,x15,x219000,x219001,x219002=>if x15=true then (some 2) else ((bitmap_colours.f k x219001).bind fun t219=>(if t219=true then (bitmap_Check.l0 k x219002 (x219002.length:Int) 0) else (some 1)))
def bitmap_Check.l0 : Nat → List (S91) → Int → Int → Option (Int)
 | 0,_,_,_=>none
 | k+1,x21,x22,x23=>if x23 < x22 then (if 0≤x23 then (if x23 < (x21.length:Int) then ((bitmap_checkPatch.f k ((rd_T91 x21 x23).f0) ((rd_T91 x21 x23).f1) ((rd_T91 x21 x23).f2) ((rd_T91 x21 x23).f3) ((rd_T91 x21 x23).f4)).bind fun t222=>(if t222=0 then (bitmap_Check.l0 k x21 x22 (wrap64 (x23+1))) else (some t222))) else (none)) else (none)) else (some 0)
end
def bitmap_Check.f (k : Nat) (a0_0 : Bool) (l0_1 : List Int) (l0_2 : List (S91)) : Option (Int) := if (l0_1.length : Int) > 16 then (bitmap_Check.j0 k true a0_0 l0_1 l0_2) else (bitmap_Check.j0 k (decide ((l0_2.length : Int) > 8)) a0_0 l0_1 l0_2)
theorem bitmap_Check.mono_l:∀ k,(∀ y0 y1 y2 y3,LeO (bitmap_Check.j0 k y0 y1 y2 y3) (bitmap_Check.j0 (k+1) y0 y1 y2 y3))∧(∀ y0 y1 y2,LeO (bitmap_Check.l0 k y0 y1 y2) (bitmap_Check.l0 (k+1) y0 y1 y2))
 | 0=>⟨fun _ _ _ _ r h=>by simp [bitmap_Check.j0] at h,fun _ _ _ r h=>by simp [bitmap_Check.l0] at h⟩
 | k+1=>by
  obtain ⟨ih0,ih1⟩:=bitmap_Check.mono_l k
  refine ⟨?_,?_⟩
  · intro y0 y1 y2 y3
    unfold bitmap_Check.j0
    repeat' first
    | (with_reducible exact ih0 _ _ _ _)
    | (with_reducible exact ih1 _ _ _)
    | (with_reducible exact bitmap_checkPatch.mono _ _ _ _ _ _)
    | (with_reducible exact bitmap_colours.mono _ _)
    | (with_reducible exact LeO.refl _)
    | (with_reducible exact LeO.none _)
    | (with_reducible refine LeO.ite ?_ ?_)
    | (with_reducible refine LeO.bind ?_ (fun _=>?_))
    | exact LeO.none _
    | refine LeO.ite ?_ ?_
    | refine LeO.bind ?_ (fun _=>?_)
  intro y0 y1 y2
  unfold bitmap_Check.l0
  repeat' first
  | (with_reducible exact ih0 _ _ _ _)
  | (with_reducible exact ih1 _ _ _)
  | (with_reducible exact bitmap_checkPatch.mono _ _ _ _ _ _)
  | (with_reducible exact bitmap_colours.mono _ _)
  | (with_reducible exact LeO.refl _)
  | (with_reducible exact LeO.none _)
  | (with_reducible refine LeO.ite ?_ ?_)
  | (with_reducible refine LeO.bind ?_ (fun _=>?_))
  | exact LeO.none _
  | refine LeO.ite ?_ ?_
  | refine LeO.bind ?_ (fun _=>?_)
theorem bitmap_Check.mono:∀ a0 a1 a2 k,LeO (bitmap_Check.f k a0 a1 a2) (bitmap_Check.f (k+1) a0 a1 a2):=by
 intro a0 a1 a2 k
 obtain ⟨ih0,ih1⟩:=bitmap_Check.mono_l k
 unfold bitmap_Check.f
 repeat' first
  | (with_reducible exact ih0 _ _ _ _)
  | (with_reducible exact ih1 _ _ _)
  | (with_reducible exact bitmap_checkPatch.mono _ _ _ _ _ _)
  | (with_reducible exact bitmap_colours.mono _ _)
  | (with_reducible exact LeO.refl _)
  | (with_reducible exact LeO.none _)
  | (with_reducible refine LeO.ite ?_ ?_)
  | (with_reducible refine LeO.bind ?_ (fun _=>?_))
  | exact LeO.none _
  | refine LeO.ite ?_ ?_
  | refine LeO.bind ?_ (fun _=>?_)
set_option maxHeartbeats 8000000 in
set_option maxRecDepth 100000 in
theorem bitmap_Check.calls (k:Nat) (a0_0:Bool) (A0_1:Option Addr) (c0_1:Nat) (l0_1:List Int) (A0_2:Option Addr) (c0_2:Nat) (l0_2:List (S91)) (r:Int) (w:World) (hr0_1:Kd.C (Kd.int .i64) w A0_1 l0_1.length l0_1) (hc0_1:l0_1.length≤c0_1) (hr0_2:Kd.C k91 w A0_2 l0_2.length l0_2) (hc0_2:l0_2.length≤c0_2) (h:bitmap_Check.f k a0_0 l0_1 l0_2=some r) :
 Calls Try.prog 39 #[.agg #[.bool a0_0,.slice A0_1 l0_1.length c0_1,.slice A0_2 l0_2.length c0_2]] w fun e w'=>e=.returned (.int .i64 r)∧Below w.heap.size w w':=by
 have hu51:=Try.underlying51
 have hu91:=Try.underlying91
 have HR0_1:=Aside0.mk hr0_1
 have HC0_1:=Aside0.mk hc0_1;clear hr0_1 hc0_1
 have HR0_2:=Aside0.mk hr0_2
 have HC0_2:=Aside0.mk hc0_2;clear hr0_2 hc0_2;have HB:=Aside0.mk (Below.refl w.heap.size w)
 have H:(if (l0_1.length:Int) > 16 then (bitmap_Check.j0 k true a0_0 l0_1 l0_2) else (bitmap_Check.j0 k (decide ((l0_2.length:Int) > 8)) a0_0 l0_1 l0_2))=some r:=h;clear h
 have HC2:=Aside0.mk H;clear H
 go_enter Try.func39,Try.ntmps39
 go_upto_region 1 with (first|((with_reducible refine gate_dst (N:=1) rfl ?_);(try (refine gate_guard (by rfl) ?_;dsimp only));refine box_event ?hg (N:=1) ?hd (cs:=#[.bool a0_0,.slice A0_1 l0_1.length c0_1,.slice A0_2 l0_2.length c0_2]) (t:=51) ?hr ?_;(case hd=>rfl);(case hg=>rfl);(case hr=>first|(go_simp;done)|(go_simp;rfl));intro gb218 hg w3 hbox hb;have n0_:=Aside0.mk (below_step (belV HB.out) hb);have n1_:=Aside0.mk (hbox);have n2_:=Aside0.mk ((by rw [hg];exact (below_size (belV HB.out)):w.heap.size≤gb218));have n3_:=Aside0.mk ((by rw [hg];exact (below_size (belV HB.out)):w.heap.size≤gb218));clear HB;have HB:=n0_;have BK218:=n1_;have GW218:=n2_;have GE218:=n3_;clear n0_ n1_ n2_ n3_;clear hb hbox hg))
 (try simp only [Act.put,List.setIfInBounds_toArray,List.set_cons_zero,List.set_cons_succ])
 go_cut [15] (fun v15 wc=>∃ (kq:Nat) (x15_1:Bool),v15=.bool x15_1∧Aside0 (bitmap_Check.j0 kq x15_1 a0_0 l0_1 l0_2=some r)∧Aside0 (kq≤k)∧Aside0 (wc.heap[gb218]?=some (.cells #[.bool a0_0,(.slice A0_1 l0_1.length c0_1),(.slice A0_2 l0_2.length c0_2)] 51 (0,0)))∧Aside0 (Below w.heap.size w wc))
 case first =>
  have H:=HC2.out;clear HC2
  by_cases c4:(l0_1.length:Int) > 16
  · rw [if_pos c4] at H
    have c4b0:decide (16 < (l0_1.length:Int))=true:=decide_eq_true c4
    have c4b1:decide (16 < l0_1.length)=true:=decide_eq_true (by omega);clear c4
    (first|rw [c4b0]|(simp only [i64_w,i32_w];rw [c4b0])|rw [c4b1]|skip)
    have H':=Aside0.mk H;clear H
    obtain ⟨hcz5_0,hcz5_1,hcz5_2,hfz5_0,hfz5_1,hfz5_2⟩:=bcells3 BK218.out
    go_wp2
    go_meet
    case rel=>exact ⟨_,(true),okV,H',⟨by first|omega|exact Nat.le_refl _⟩,⟨blkV BK218.out⟩,⟨belV1 HB.out GE218.out⟩⟩
  rw [if_neg c4] at H
  have c4b0:decide (16 < (l0_1.length:Int))=false:=decide_eq_false c4
  have c4b1:decide (16 < l0_1.length)=false:=decide_eq_false (by omega);clear c4
  (first|rw [c4b0]|(simp only [i64_w,i32_w];rw [c4b0])|rw [c4b1]|skip)
  have H':=Aside0.mk H;clear H
  obtain ⟨hcz6_0,hcz6_1,hcz6_2,hfz6_0,hfz6_1,hfz6_2⟩:=bcells3 BK218.out
  go_wp2
  go_meet
  case rel=>exact ⟨_,(decide ((l0_2.length:Int) > 8)),okV,H',⟨by first|omega|exact Nat.le_refl _⟩,⟨blkV BK218.out⟩,⟨belV1 HB.out GE218.out⟩⟩
 case rest =>
  clear HC2
  try clear p2;try clear c3;try clear c4;try clear c4b0;try clear c4b1;try clear hcz5_0 hcz5_1 hcz5_2;try clear hcz6_0 hcz6_1 hcz6_2;try clear hfz5_0 hfz5_1 hfz5_2;try clear hfz6_0 hfz6_1 hfz6_2
  obtain ⟨kq,x15_1,rfl,HA,HJ1,BK218,HB⟩:=hcut
  cases kq with
  | zero=>exact absurd HA.out (by simp [bitmap_Check.j0])
  | succ kj1 =>
   have H:=HA.out;clear HA
   simp only [bitmap_Check.j0] at H
   by_cases c7:x15_1=true
   · subst c7
     have H1:(some 2)=some r:=by rw [if_pos rfl] at H;exact H
     clear H
     have H:=H1;clear H1
     obtain rfl:=Option.some.inj H
     go_wp2
     go_ret
     exact ⟨by first|rfl|(simp [errW_none,errW_some] <;> rfl)|(simp [*,errW_none,errW_some] <;> rfl),by repeat (first|(with_reducible first|exact HB.out|apply below_alloc|apply pw_below_drewN|apply below_drew1|refine below_set ?_ GE218.out)|exact HB.out)⟩
   replace c7:=Bool.eq_false_iff.mpr c7;subst c7
   have H1:((bitmap_colours.f kj1 l0_1).bind fun t219=>(if t219=true then (bitmap_Check.l0 kj1 l0_2 (l0_2.length:Int) 0) else (some 1)))=some r:=by rw [if_neg (show ¬ (false=true) by decide)] at H;exact H
   clear H
   have H:=H1;clear H1
   replace H:=Option.bind_eq_some_iff.mp H
   obtain ⟨t219,A80,H⟩:=H
   replace H:(if t219=true then (bitmap_Check.l0 kj1 l0_2 (l0_2.length:Int) 0) else (some 1))=some r:=H
   have A8:=Aside0.mk A80;clear A80
   by_cases c9:t219=true
   · subst c9
     have H1:(bitmap_Check.l0 kj1 l0_2 (l0_2.length:Int) 0)=some r:=by rw [if_pos rfl] at H;exact H
     clear H
     have H:=H1;clear H1
     have H':=Aside0.mk H;clear H
     obtain ⟨hcz10_0,hcz10_1,hcz10_2,hfz10_0,hfz10_1,hfz10_2⟩:=bcells3 BK218.out
     go_wp2_with (first|((with_reducible refine gate_callee (f:=71) rfl ?_);refine goesL_ (some 18) rfl rfl Try.func71 (by kernel_rfl) rfl #[.slice A0_1 l0_1.length c0_1] rfl (by (try simp only [List.map_toArray,List.map_cons,List.map_nil]);first|done|rfl|(simp only [List.length_drop,List.length_take];rfl)) ?_;(with_reducible refine (bitmap_colours.calls kj1 _ _ l0_1 true _ ?side1 ?side2 A8.out).mono ?_);(case side1=>exact cV (Kd.C_below HR0_1.out HB.out));(case side2=>exact HC0_1.out);rintro e w' ⟨rfl,⟨nd,rfl⟩⟩;refine ⟨_,rfl,?_⟩))
     go_loopg [23] kj1 (fun kq v23 w'=>∃ (x23_2:Int),v23=.int .i64 x23_2∧Aside0 (bitmap_Check.l0 kq l0_2 (l0_2.length:Int) x23_2=some r)∧Aside0 (kq≤kj1)∧Aside0 (w'.heap[gb218]?=some (.cells #[.bool a0_0,(.slice A0_1 l0_1.length c0_1),(.slice A0_2 l0_2.length c0_2)] 51 (0,0)))∧Aside0 (Below w.heap.size w w'))
     case atStart=>exact ⟨(0),okV,H',⟨Nat.le_refl _⟩,⟨blkV BK218.out⟩,⟨belV1 HB.out GE218.out⟩⟩
     case round =>
      clear H'
      try clear p2 p2;try clear c3;try clear c4;try clear c4b0;try clear c4b1;try clear c7;try clear c9;try clear hcz10_0 hcz10_1 hcz10_2;try clear hcz5_0 hcz5_1 hcz5_2;try clear hcz6_0 hcz6_1 hcz6_2;try clear hfz10_0 hfz10_1 hfz10_2;try clear hfz5_0 hfz5_1 hfz5_2;try clear hfz6_0 hfz6_1 hfz6_2
      obtain ⟨x23_2,rfl,HA,HK2,BK218,HB⟩:=hrel
      cases gk with
      | zero=>exact absurd HA.out (by simp [bitmap_Check.l0])
      | succ k2 =>
       have H:=HA.out;clear HA
       simp only [bitmap_Check.l0] at H
       by_cases c11:x23_2 < (l0_2.length:Int)
       · rw [if_pos c11] at H
         have c11b0:decide (x23_2 < (l0_2.length:Int))=true:=decide_eq_true c11;clear c11
         by_cases c12:0≤x23_2
         · rw [if_pos c12] at H
           have c12b0:decide (0≤x23_2)=true:=decide_eq_true c12;clear c12
           by_cases c13:x23_2 < (l0_2.length:Int)
           · rw [if_pos c13] at H
             have c13b0:decide (x23_2 < (l0_2.length:Int))=true:=decide_eq_true c13;clear c13
             replace H:=Option.bind_eq_some_iff.mp H
             obtain ⟨t222,A140,H⟩:=H
             replace H:(if t222=0 then (bitmap_Check.l0 k2 l0_2 (l0_2.length:Int) (wrap64 (x23_2+1))) else (some t222))=some r:=H
             have A14:=Aside0.mk A140;clear A140
             by_cases c15:t222=0
             · rw [if_pos c15] at H
               have c15b0:(t222 == 0)=true:=beq_iff_eq.mpr c15
               have c15b1:(t222 != 0)=false:=bne_eq_false_iff_eq.mpr c15;clear c15
               have H':=Aside0.mk H;clear H
               have p220:0≤(x23_2:Int):=of_decide_eq_true asV
               have q220:x23_2 < (l0_2.length:Int):=of_decide_eq_true asV
               obtain ⟨ad220,A220_4,c220_4,e220,hx220_0,hx220_1,hx220_2,hx220_3,hx220_4,hl220_4,hi220_4⟩:=at_T91 HR0_2.out x23_2 p220 q220
               cases e220
               replace hx220_0:=(HB.out.cell (World.block_lt_of_cell? w _ hx220_0)).trans hx220_0
               replace hx220_1:=(HB.out.cell (World.block_lt_of_cell? w _ hx220_1)).trans hx220_1
               replace hx220_2:=(HB.out.cell (World.block_lt_of_cell? w _ hx220_2)).trans hx220_2
               replace hx220_3:=(HB.out.cell (World.block_lt_of_cell? w _ hx220_3)).trans hx220_3
               replace hx220_4:=(HB.out.cell (World.block_lt_of_cell? w _ hx220_4)).trans hx220_4
               have HR220_4:=Aside0.mk hi220_4
               have HC220_4:=Aside0.mk hl220_4;clear hi220_4 hl220_4
               replace p220:=eq_true p220
               replace q220:=eq_true q220
               go_wp2_with (first|((with_reducible refine gate_dst (N:=4) rfl ?_);(try (refine gate_guard (by rfl) ?_;dsimp only));refine box_event ?hg (N:=4) ?hd (cs:=#[.int .i64 0,.int .i64 0,.int .i64 0,.int .i64 0,.slice none 0 0]) (t:=91) ?hr ?_;(case hd=>rfl);(case hg=>rfl);(case hr=>first|(go_simp;done)|(go_simp;rfl));intro gb221 hg w16 hbox hb;have n0_:=Aside0.mk (blk_below (g:=gb218) (blkV BK218.out) hb);have n1_:=Aside0.mk (below_step (belV1 HB.out GE218.out) hb);have n2_:=Aside0.mk (hbox);have n3_:=Aside0.mk ((by rw [hg];exact (below_size (belV1 HB.out GE218.out)):w.heap.size≤gb221));have n4_:=Aside0.mk ((by rw [hg];exact (below_size (belV1 HB.out GE218.out)):w.heap.size≤gb221));have n5_:=Aside0.mk ((by rw [hg];exact Nat.ne_of_lt (blk_lt (g:=gb218) (blkV BK218.out)):gb218≠gb221));have n6_:=Aside0.mk ((by rw [hg];exact Nat.ne_of_gt (blk_lt (g:=gb218) (blkV BK218.out)):gb221≠gb218));clear BK218;clear HB;have BK218:=n0_;have HB:=n1_;have BK221:=n2_;have GW221:=n3_;have GE221:=n4_;have NB218_221:=n5_;have NB221_218:=n6_;clear n0_ n1_ n2_ n3_ n4_ n5_ n6_;clear hb hbox hg;have hnb17:=NB221_218.out;have hnc17:=NB218_221.out;obtain ⟨hcz18_0,hcz18_1,hcz18_2,hcz18_3,hcz18_4,hfz18_0,hfz18_1,hfz18_2,hfz18_3,hfz18_4⟩:=bcells5 BK221.out)|((with_reducible refine gate_callee (f:=72) rfl ?_);refine goesL_ (some 28) rfl rfl Try.func72 (by kernel_rfl) rfl #[.agg #[.int .i64 ((rd_T91 l0_2 x23_2).f0),.int .i64 ((rd_T91 l0_2 x23_2).f1),.int .i64 ((rd_T91 l0_2 x23_2).f2),.int .i64 ((rd_T91 l0_2 x23_2).f3),.slice A220_4 ((rd_T91 l0_2 x23_2).f4).length c220_4]] rfl (by (try simp only [List.map_toArray,List.map_cons,List.map_nil]);first|done|rfl|(simp only [List.length_drop,List.length_take];rfl)) ?_;(with_reducible refine (bitmap_checkPatch.calls k2 ((rd_T91 l0_2 x23_2).f0) ((rd_T91 l0_2 x23_2).f1) ((rd_T91 l0_2 x23_2).f2) ((rd_T91 l0_2 x23_2).f3) _ _ ((rd_T91 l0_2 x23_2).f4) t222 _ ?side1 ?side2 A14.out).mono ?_);(case side1=>exact Kd.C_below HR220_4.out (belV2 HB.out GE218.out GE221.out));(case side2=>exact HC220_4.out);rintro e w19 ⟨rfl,hb⟩;refine ⟨_,rfl,?_⟩;have n0_:=Aside0.mk (blk_below (g:=gb218) (o:=.cells #[.bool a0_0,.slice A0_1 l0_1.length c0_1,.slice (some ad220) l0_2.length c0_2] 51 (0,0)) (blkW BK218.out NB218_221.out) hb);have n1_:=Aside0.mk (blk_below (g:=gb221) (o:=.cells #[.int .i64 ((rd_T91 l0_2 x23_2).f0),.int .i64 ((rd_T91 l0_2 x23_2).f1),.int .i64 ((rd_T91 l0_2 x23_2).f2),.int .i64 ((rd_T91 l0_2 x23_2).f3),.slice A220_4 ((rd_T91 l0_2 x23_2).f4).length c220_4] 91 (0,0)) (by (with_reducible repeat (first|refine blk_drewN ?_ _|refine blk_drew ?_|refine blk_alloc ?_ _));refine blk_put (cs:=#[.int .i64 ((rd_T91 l0_2 x23_2).f0),.int .i64 ((rd_T91 l0_2 x23_2).f1),.int .i64 ((rd_T91 l0_2 x23_2).f2),.int .i64 ((rd_T91 l0_2 x23_2).f3),.slice none 0 0]) ?_ 4 _ rfl;(with_reducible repeat (first|refine blk_drewN ?_ _|refine blk_drew ?_|refine blk_alloc ?_ _));refine blk_put (cs:=#[.int .i64 ((rd_T91 l0_2 x23_2).f0),.int .i64 ((rd_T91 l0_2 x23_2).f1),.int .i64 ((rd_T91 l0_2 x23_2).f2),.int .i64 0,.slice none 0 0]) ?_ 3 _ rfl;(with_reducible repeat (first|refine blk_drewN ?_ _|refine blk_drew ?_|refine blk_alloc ?_ _));refine blk_put (cs:=#[.int .i64 ((rd_T91 l0_2 x23_2).f0),.int .i64 ((rd_T91 l0_2 x23_2).f1),.int .i64 0,.int .i64 0,.slice none 0 0]) ?_ 2 _ rfl;(with_reducible repeat (first|refine blk_drewN ?_ _|refine blk_drew ?_|refine blk_alloc ?_ _));refine blk_put (cs:=#[.int .i64 ((rd_T91 l0_2 x23_2).f0),.int .i64 0,.int .i64 0,.int .i64 0,.slice none 0 0]) ?_ 1 _ rfl;(with_reducible repeat (first|refine blk_drewN ?_ _|refine blk_drew ?_|refine blk_alloc ?_ _));refine blk_put (cs:=#[.int .i64 0,.int .i64 0,.int .i64 0,.int .i64 0,.slice none 0 0]) ?_ 0 _ rfl;(with_reducible repeat (first|refine blk_drewN ?_ _|refine blk_drew ?_|refine blk_alloc ?_ _));exact BK221.out) hb);have n2_:=Aside0.mk (below_step (belV2 HB.out GE218.out GE221.out) hb);clear BK218;clear BK221;clear HB;have BK218:=n0_;have BK221:=n1_;have HB:=n2_;clear n0_ n1_ n2_;(try clear hb);(try clear hb2);(try clear hk);(try clear hi)))
               go_roundg k2
               case measure=>have:=HJ1.out;have:=HK2.out;omega
               case rel=>exact ⟨(wrap64 (x23_2+1)),okV,H',⟨by have:=HJ1.out;have:=HK2.out;omega⟩,⟨blkV BK218.out⟩,⟨belV2 HB.out GE218.out GE221.out⟩⟩
             rw [if_neg c15] at H
             have c15b0:(t222 == 0)=false:=beq_eq_false_iff_ne.mpr c15
             have c15b1:(t222 != 0)=true:=bne_iff_ne.mpr c15
             obtain rfl:=Option.some.inj H
             have p220:0≤(x23_2:Int):=of_decide_eq_true asV
             have q220:x23_2 < (l0_2.length:Int):=of_decide_eq_true asV
             obtain ⟨ad220,A220_4,c220_4,e220,hx220_0,hx220_1,hx220_2,hx220_3,hx220_4,hl220_4,hi220_4⟩:=at_T91 HR0_2.out x23_2 p220 q220
             cases e220
             replace hx220_0:=(HB.out.cell (World.block_lt_of_cell? w _ hx220_0)).trans hx220_0
             replace hx220_1:=(HB.out.cell (World.block_lt_of_cell? w _ hx220_1)).trans hx220_1
             replace hx220_2:=(HB.out.cell (World.block_lt_of_cell? w _ hx220_2)).trans hx220_2
             replace hx220_3:=(HB.out.cell (World.block_lt_of_cell? w _ hx220_3)).trans hx220_3
             replace hx220_4:=(HB.out.cell (World.block_lt_of_cell? w _ hx220_4)).trans hx220_4
             have HR220_4:=Aside0.mk hi220_4
             have HC220_4:=Aside0.mk hl220_4;clear hi220_4 hl220_4
             replace p220:=eq_true p220
             replace q220:=eq_true q220
             go_wp2_with (first|((with_reducible refine gate_dst (N:=4) rfl ?_);(try (refine gate_guard (by rfl) ?_;dsimp only));refine box_event ?hg (N:=4) ?hd (cs:=#[.int .i64 0,.int .i64 0,.int .i64 0,.int .i64 0,.slice none 0 0]) (t:=91) ?hr ?_;(case hd=>rfl);(case hg=>rfl);(case hr=>first|(go_simp;done)|(go_simp;rfl));intro gb221 hg w20 hbox hb;have n0_:=Aside0.mk (blk_below (g:=gb218) (blkV BK218.out) hb);have n1_:=Aside0.mk (below_step (belV1 HB.out GE218.out) hb);have n2_:=Aside0.mk (hbox);have n3_:=Aside0.mk ((by rw [hg];exact (below_size (belV1 HB.out GE218.out)):w.heap.size≤gb221));have n4_:=Aside0.mk ((by rw [hg];exact (below_size (belV1 HB.out GE218.out)):w.heap.size≤gb221));have n5_:=Aside0.mk ((by rw [hg];exact Nat.ne_of_lt (blk_lt (g:=gb218) (blkV BK218.out)):gb218≠gb221));have n6_:=Aside0.mk ((by rw [hg];exact Nat.ne_of_gt (blk_lt (g:=gb218) (blkV BK218.out)):gb221≠gb218));clear BK218;clear HB;have BK218:=n0_;have HB:=n1_;have BK221:=n2_;have GW221:=n3_;have GE221:=n4_;have NB218_221:=n5_;have NB221_218:=n6_;clear n0_ n1_ n2_ n3_ n4_ n5_ n6_;clear hb hbox hg;have hnb21:=NB221_218.out;have hnc21:=NB218_221.out;obtain ⟨hcz22_0,hcz22_1,hcz22_2,hcz22_3,hcz22_4,hfz22_0,hfz22_1,hfz22_2,hfz22_3,hfz22_4⟩:=bcells5 BK221.out)|((with_reducible refine gate_callee (f:=72) rfl ?_);refine goesL_ (some 28) rfl rfl Try.func72 (by kernel_rfl) rfl #[.agg #[.int .i64 ((rd_T91 l0_2 x23_2).f0),.int .i64 ((rd_T91 l0_2 x23_2).f1),.int .i64 ((rd_T91 l0_2 x23_2).f2),.int .i64 ((rd_T91 l0_2 x23_2).f3),.slice A220_4 ((rd_T91 l0_2 x23_2).f4).length c220_4]] rfl (by (try simp only [List.map_toArray,List.map_cons,List.map_nil]);first|done|rfl|(simp only [List.length_drop,List.length_take];rfl)) ?_;(with_reducible refine (bitmap_checkPatch.calls k2 ((rd_T91 l0_2 x23_2).f0) ((rd_T91 l0_2 x23_2).f1) ((rd_T91 l0_2 x23_2).f2) ((rd_T91 l0_2 x23_2).f3) _ _ ((rd_T91 l0_2 x23_2).f4) t222 _ ?side1 ?side2 A14.out).mono ?_);(case side1=>exact Kd.C_below HR220_4.out (belV2 HB.out GE218.out GE221.out));(case side2=>exact HC220_4.out);rintro e w23 ⟨rfl,hb⟩;refine ⟨_,rfl,?_⟩;have n0_:=Aside0.mk (blk_below (g:=gb218) (o:=.cells #[.bool a0_0,.slice A0_1 l0_1.length c0_1,.slice (some ad220) l0_2.length c0_2] 51 (0,0)) (blkW BK218.out NB218_221.out) hb);have n1_:=Aside0.mk (blk_below (g:=gb221) (o:=.cells #[.int .i64 ((rd_T91 l0_2 x23_2).f0),.int .i64 ((rd_T91 l0_2 x23_2).f1),.int .i64 ((rd_T91 l0_2 x23_2).f2),.int .i64 ((rd_T91 l0_2 x23_2).f3),.slice A220_4 ((rd_T91 l0_2 x23_2).f4).length c220_4] 91 (0,0)) (by (with_reducible repeat (first|refine blk_drewN ?_ _|refine blk_drew ?_|refine blk_alloc ?_ _));refine blk_put (cs:=#[.int .i64 ((rd_T91 l0_2 x23_2).f0),.int .i64 ((rd_T91 l0_2 x23_2).f1),.int .i64 ((rd_T91 l0_2 x23_2).f2),.int .i64 ((rd_T91 l0_2 x23_2).f3),.slice none 0 0]) ?_ 4 _ rfl;(with_reducible repeat (first|refine blk_drewN ?_ _|refine blk_drew ?_|refine blk_alloc ?_ _));refine blk_put (cs:=#[.int .i64 ((rd_T91 l0_2 x23_2).f0),.int .i64 ((rd_T91 l0_2 x23_2).f1),.int .i64 ((rd_T91 l0_2 x23_2).f2),.int .i64 0,.slice none 0 0]) ?_ 3 _ rfl;(with_reducible repeat (first|refine blk_drewN ?_ _|refine blk_drew ?_|refine blk_alloc ?_ _));refine blk_put (cs:=#[.int .i64 ((rd_T91 l0_2 x23_2).f0),.int .i64 ((rd_T91 l0_2 x23_2).f1),.int .i64 0,.int .i64 0,.slice none 0 0]) ?_ 2 _ rfl;(with_reducible repeat (first|refine blk_drewN ?_ _|refine blk_drew ?_|refine blk_alloc ?_ _));refine blk_put (cs:=#[.int .i64 ((rd_T91 l0_2 x23_2).f0),.int .i64 0,.int .i64 0,.int .i64 0,.slice none 0 0]) ?_ 1 _ rfl;(with_reducible repeat (first|refine blk_drewN ?_ _|refine blk_drew ?_|refine blk_alloc ?_ _));refine blk_put (cs:=#[.int .i64 0,.int .i64 0,.int .i64 0,.int .i64 0,.slice none 0 0]) ?_ 0 _ rfl;(with_reducible repeat (first|refine blk_drewN ?_ _|refine blk_drew ?_|refine blk_alloc ?_ _));exact BK221.out) hb);have n2_:=Aside0.mk (below_step (belV2 HB.out GE218.out GE221.out) hb);clear BK218;clear BK221;clear HB;have BK218:=n0_;have BK221:=n1_;have HB:=n2_;clear n0_ n1_ n2_;(try clear hb);(try clear hb2);(try clear hk);(try clear hi)))
             go_ret
             exact ⟨by first|rfl|(simp [errW_none,errW_some] <;> rfl)|(simp [*,errW_none,errW_some] <;> rfl),by repeat (first|(with_reducible first|exact HB.out|apply below_alloc|apply pw_below_drewN|apply below_drew1|refine below_set ?_ GE218.out|refine below_set ?_ GE221.out)|exact HB.out)⟩
           rw [if_neg c13] at H
           exact absurd H (by simp)
         rw [if_neg c12] at H
         exact absurd H (by simp)
       rw [if_neg c11] at H
       have c11b0:decide (x23_2 < (l0_2.length:Int))=false:=decide_eq_false c11;clear c11
       obtain rfl:=Option.some.inj H
       go_wp2
       go_ret
       exact ⟨by first|rfl|(simp [errW_none,errW_some] <;> rfl)|(simp [*,errW_none,errW_some] <;> rfl),by repeat (first|(with_reducible first|exact HB.out|apply below_alloc|apply pw_below_drewN|apply below_drew1|refine below_set ?_ GE218.out)|exact HB.out)⟩
   replace c9:=Bool.eq_false_iff.mpr c9;subst c9
   have H1:(some 1)=some r:=by rw [if_neg (show ¬ (false=true) by decide)] at H;exact H
   clear H
   have H:=H1;clear H1
   obtain rfl:=Option.some.inj H
   obtain ⟨hcz24_0,hcz24_1,hcz24_2,hfz24_0,hfz24_1,hfz24_2⟩:=bcells3 BK218.out
   go_wp2_with (first|((with_reducible refine gate_callee (f:=71) rfl ?_);refine goesL_ (some 18) rfl rfl Try.func71 (by kernel_rfl) rfl #[.slice A0_1 l0_1.length c0_1] rfl (by (try simp only [List.map_toArray,List.map_cons,List.map_nil]);first|done|rfl|(simp only [List.length_drop,List.length_take];rfl)) ?_;(with_reducible refine (bitmap_colours.calls kj1 _ _ l0_1 false _ ?side1 ?side2 A8.out).mono ?_);(case side1=>exact cV (Kd.C_below HR0_1.out HB.out));(case side2=>exact HC0_1.out);rintro e w' ⟨rfl,⟨nd,rfl⟩⟩;refine ⟨_,rfl,?_⟩))
   go_ret
   exact ⟨by first|rfl|(simp [errW_none,errW_some] <;> rfl)|(simp [*,errW_none,errW_some] <;> rfl),by repeat (first|(with_reducible first|exact HB.out|apply below_alloc|apply pw_below_drewN|apply below_drew1|refine below_set ?_ GE218.out)|exact HB.out)⟩

/-! ### bitmap_sound_1: function 85 -/
def bitmap_sound_1.f (a0 : Int) : Option (Bool) := (bitmap_within.f a0 (-1) 15).bind fun t223 => (some (!t223))
set_option maxHeartbeats 8000000 in
set_option maxRecDepth 100000 in
theorem bitmap_sound_1.calls (a0 : Int) (r : Bool) (w : World) (h : bitmap_sound_1.f a0 = some r) :
    Calls Try.prog 85 #[.int .i64 a0] w fun e w' => e = .returned (.bool r) ∧ Drawn0 w w' := by
  have H : ((bitmap_within.f a0 (-1) 15).bind fun t223 => (some (!t223))) = some r := h
  clear h
  replace H := Option.bind_eq_some_iff.mp H
  obtain ⟨t223, A20, H⟩ := H
  replace H : (some (!t223)) = some r := H
  have A2 := Aside0.mk A20
  clear A20
  obtain rfl := Option.some.inj H
  go_enter Try.func85, Try.ntmps85
  go_wp2_with (first | ((with_reducible refine gate_callee (f := 47) rfl ?_); refine goesL_ (some 4) rfl rfl Try.func47 (by kernel_rfl) rfl #[.int .i64 a0, .int .i64 (-1), .int .i64 15] rfl (by (try simp only [List.map_toArray, List.map_cons, List.map_nil]); first | done | rfl | (simp only [List.length_drop, List.length_take]; rfl)) ?_; (with_reducible refine (bitmap_within.calls a0 (-1) 15 t223 _ A2.out).mono ?_); rintro e w' ⟨rfl, ⟨nd, rfl⟩⟩; refine ⟨_, rfl, ?_⟩))
  go_ret
  exact ⟨by first | rfl | (simp; done) | (simp [*]; done), by repeat (first | exact Drawn0.refl _ | apply Drawn0.step)⟩

/-! ### slices_IndexFunc_int_int__85: function 83 -/
def slices_IndexFunc_int_int__85.l0 : Nat → List Int → Int → Int → Option (Int)
 | 0,_,_,_=>none
 | k+1,x0,x7,x8=>if x8 < x7 then (if 0≤x8 then (if x8 < (x0.length:Int) then ((bitmap_sound_1.f (rd x0 x8)).bind fun t225=>(if t225=true then (some x8) else (slices_IndexFunc_int_int__85.l0 k x0 x7 (wrap64 (x8+1))))) else (none)) else (none)) else (some (-1))
def slices_IndexFunc_int_int__85.f (k : Nat) (l0 : List Int)  : Option (Int) := slices_IndexFunc_int_int__85.l0 k l0 (l0.length : Int) 0
theorem slices_IndexFunc_int_int__85.mono_l:∀ k,(∀ y0 y1 y2,LeO (slices_IndexFunc_int_int__85.l0 k y0 y1 y2) (slices_IndexFunc_int_int__85.l0 (k+1) y0 y1 y2))
 | 0=>fun _ _ _ r h=>by simp [slices_IndexFunc_int_int__85.l0] at h
 | k+1=>by
  have ih0:=slices_IndexFunc_int_int__85.mono_l k
  · intro y0 y1 y2
    unfold slices_IndexFunc_int_int__85.l0
    repeat' first
    | (with_reducible exact ih0 _ _ _)
    | (with_reducible exact LeO.refl _)
    | (with_reducible exact LeO.none _)
    | (with_reducible refine LeO.ite ?_ ?_)
    | (with_reducible refine LeO.bind ?_ (fun _=>?_))
    | exact LeO.none _
    | refine LeO.ite ?_ ?_
    | refine LeO.bind ?_ (fun _=>?_)
theorem slices_IndexFunc_int_int__85.mono:∀ a0 k,LeO (slices_IndexFunc_int_int__85.f k a0) (slices_IndexFunc_int_int__85.f (k+1) a0):=by
 intro a0 k
 have ih0:=slices_IndexFunc_int_int__85.mono_l k
 unfold slices_IndexFunc_int_int__85.f
 repeat' first
  | (with_reducible exact ih0 _ _ _)
  | (with_reducible exact LeO.refl _)
  | (with_reducible exact LeO.none _)
  | (with_reducible refine LeO.ite ?_ ?_)
  | (with_reducible refine LeO.bind ?_ (fun _=>?_))
  | exact LeO.none _
  | refine LeO.ite ?_ ?_
  | refine LeO.bind ?_ (fun _=>?_)
set_option maxHeartbeats 8000000 in
set_option maxRecDepth 100000 in
theorem slices_IndexFunc_int_int__85.calls (k:Nat) (A0:Option Addr) (c0:Nat) (l0:List Int)  (r:Int) (w:World) (hr0:Kd.C (Kd.int .i64) w A0 l0.length l0) (hc0:l0.length≤c0) (h:slices_IndexFunc_int_int__85.f k l0=some r) :
 Calls Try.prog 83 #[.slice A0 l0.length c0,.func (.func 85) #[] #[]] w fun e w'=>e=.returned (.int .i64 r)∧Drawn0 w w':=by
 have HR0:=Aside0.mk hr0
 have HC0:=Aside0.mk hc0;clear hr0 hc0
 have H:(slices_IndexFunc_int_int__85.l0 k l0 (l0.length:Int) 0)=some r:=h;clear h
 have H':=Aside0.mk H;clear H
 go_enter Try.func83,Try.ntmps83
 go_wp2
 go_loopg [8] k (fun kq v8 w'=>∃ (x8_1:Int),v8=.int .i64 x8_1∧Aside0 (slices_IndexFunc_int_int__85.l0 kq l0 (l0.length:Int) x8_1=some r)∧Aside0 (kq≤k)∧Drawn0 w w')
 case atStart=>exact ⟨(0),okV,H',⟨Nat.le_refl _⟩,by repeat (first|exact Drawn0.refl _|apply Drawn0.step)⟩
 case round =>
  clear H'
  try clear p2
  obtain ⟨x8_1,rfl,HA,HK1,⟨m1,rfl⟩⟩:=hrel
  cases gk with
  | zero=>exact absurd HA.out (by simp [slices_IndexFunc_int_int__85.l0])
  | succ k1 =>
   have H:=HA.out;clear HA
   simp only [slices_IndexFunc_int_int__85.l0] at H
   by_cases c3:x8_1 < (l0.length:Int)
   · rw [if_pos c3] at H
     have c3b0:decide (x8_1 < (l0.length:Int))=true:=decide_eq_true c3;clear c3
     by_cases c4:0≤x8_1
     · rw [if_pos c4] at H
       have c4b0:decide (0≤x8_1)=true:=decide_eq_true c4;clear c4
       by_cases c5:x8_1 < (l0.length:Int)
       · rw [if_pos c5] at H
         have c5b0:decide (x8_1 < (l0.length:Int))=true:=decide_eq_true c5;clear c5
         replace H:=Option.bind_eq_some_iff.mp H
         obtain ⟨t225,A60,H⟩:=H
         replace H:(if t225=true then (some x8_1) else (slices_IndexFunc_int_int__85.l0 k1 l0 (l0.length:Int) (wrap64 (x8_1+1))))=some r:=H
         have A6:=Aside0.mk A60;clear A60
         by_cases c7:t225=true
         · subst c7
           have H1:(some x8_1)=some r:=by rw [if_pos rfl] at H;exact H
           clear H
           have H:=H1;clear H1
           obtain rfl:=Option.some.inj H
           have p224:0≤(x8_1:Int):=of_decide_eq_true asV
           have q224:x8_1 < (l0.length:Int):=of_decide_eq_true asV
           obtain ⟨ad224,e224,hx224_0⟩:=Kd.at_int HR0.out x8_1 p224 q224
           cases e224
           replace p224:=eq_true p224
           replace q224:=eq_true q224
           go_wp2_with (first|(go_at_call 85;(with_reducible refine (bitmap_sound_1.calls (rd l0 x8_1) true _ A6.out).mono ?_);rintro e w' ⟨rfl,⟨nd,rfl⟩⟩))
           go_ret
           exact ⟨by first|rfl|(simp;done)|(simp [*];done),by repeat (first|exact Drawn0.refl _|apply Drawn0.step)⟩
         replace c7:=Bool.eq_false_iff.mpr c7;subst c7
         have H1:(slices_IndexFunc_int_int__85.l0 k1 l0 (l0.length:Int) (wrap64 (x8_1+1)))=some r:=by rw [if_neg (show ¬ (false=true) by decide)] at H;exact H
         clear H
         have H:=H1;clear H1
         have H':=Aside0.mk H;clear H
         have p224:0≤(x8_1:Int):=of_decide_eq_true asV
         have q224:x8_1 < (l0.length:Int):=of_decide_eq_true asV
         obtain ⟨ad224,e224,hx224_0⟩:=Kd.at_int HR0.out x8_1 p224 q224
         cases e224
         replace p224:=eq_true p224
         replace q224:=eq_true q224
         go_wp2_with (first|(go_at_call 85;(with_reducible refine (bitmap_sound_1.calls (rd l0 x8_1) false _ A6.out).mono ?_);rintro e w' ⟨rfl,⟨nd,rfl⟩⟩))
         go_roundg k1
         case measure=>have:=HK1.out;omega
         case rel=>exact ⟨(wrap64 (x8_1+1)),okV,H',⟨by have:=HK1.out;omega⟩,by repeat (first|exact Drawn0.refl _|apply Drawn0.step)⟩
       rw [if_neg c5] at H
       exact absurd H (by simp)
     rw [if_neg c4] at H
     exact absurd H (by simp)
   rw [if_neg c3] at H
   have c3b0:decide (x8_1 < (l0.length:Int))=false:=decide_eq_false c3;clear c3
   obtain rfl:=Option.some.inj H
   go_wp2
   go_ret
   exact ⟨by first|rfl|(simp;done)|(simp [*];done),by repeat (first|exact Drawn0.refl _|apply Drawn0.step)⟩

/-! ### slices_ContainsFunc_int_int__85: function 48 -/
def slices_ContainsFunc_int_int__85.f (k : Nat) (l0 : List Int)  : Option (Bool) := (slices_IndexFunc_int_int__85.f k l0).bind fun t226 => (some (decide (t226 ≥ 0)))
theorem slices_ContainsFunc_int_int__85.mono : ∀ a0 k, LeO (slices_ContainsFunc_int_int__85.f k a0) (slices_ContainsFunc_int_int__85.f (k + 1) a0) := by
  intro a0 k
  unfold slices_ContainsFunc_int_int__85.f
  repeat' first
      | (with_reducible exact slices_IndexFunc_int_int__85.mono _ _)
      | (with_reducible exact LeO.refl _)
      | (with_reducible exact LeO.none _)
      | (with_reducible refine LeO.ite ?_ ?_)
      | (with_reducible refine LeO.bind ?_ (fun _ => ?_))
      | exact slices_IndexFunc_int_int__85.mono _ _
      | exact LeO.none _
      | refine LeO.ite ?_ ?_
      | refine LeO.bind ?_ (fun _ => ?_)
set_option maxHeartbeats 8000000 in
set_option maxRecDepth 100000 in
theorem slices_ContainsFunc_int_int__85.calls (k : Nat) (A0 : Option Addr) (c0 : Nat) (l0 : List Int)  (r : Bool) (w : World) (hr0 : Kd.C (Kd.int .i64) w A0 l0.length l0) (hc0 : l0.length ≤ c0) (h : slices_ContainsFunc_int_int__85.f k l0 = some r) :
    Calls Try.prog 48 #[.slice A0 l0.length c0, .func (.func 85) #[] #[]] w fun e w' => e = .returned (.bool r) ∧ Drawn0 w w' := by
  have HR0 := Aside0.mk hr0
  have HC0 := Aside0.mk hc0
  clear hr0 hc0
  have H : ((slices_IndexFunc_int_int__85.f k l0).bind fun t226 => (some (decide (t226 ≥ 0)))) = some r := h
  clear h
  replace H := Option.bind_eq_some_iff.mp H
  obtain ⟨t226, A30, H⟩ := H
  replace H : (some (decide (t226 ≥ 0))) = some r := H
  have A3 := Aside0.mk A30
  clear A30
  obtain rfl := Option.some.inj H
  go_enter Try.func48, Try.ntmps48
  go_wp2_with (first | ((with_reducible refine gate_callee (f := 83) rfl ?_); refine goesL_ (some 7) rfl rfl Try.func83 (by kernel_rfl) rfl #[.slice A0 l0.length c0, .func (.func 85) #[] #[]] rfl (by (try simp only [List.map_toArray, List.map_cons, List.map_nil]); first | done | rfl | (simp only [List.length_drop, List.length_take]; rfl)) ?_; (with_reducible refine (slices_IndexFunc_int_int__85.calls k _ _ l0  t226 _ ?side1 ?side2 A3.out).mono ?_); (case side1 => repeat (first | exact HR0.out | (with_reducible refine Kd.C_alloc ?_ _) | (with_reducible refine Kd.C_drewN ?_ _) | (with_reducible refine Kd.C_drew ?_))); (case side2 => exact HC0.out); rintro e w' ⟨rfl, ⟨nd, rfl⟩⟩; refine ⟨_, rfl, ?_⟩))
  go_ret
  exact ⟨by first | rfl | (simp; done) | (simp [*]; done), by repeat (first | exact Drawn0.refl _ | apply Drawn0.step)⟩

end Go.Proofs.Ytaebgjdaoloceaa.QBmpF
