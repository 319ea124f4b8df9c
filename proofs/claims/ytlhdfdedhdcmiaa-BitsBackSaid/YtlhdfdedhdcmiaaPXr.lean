/- A lemma file: the reference's writer of bits, as a list of bits: its methods; a call of either, by number. No condition. -/
import Derived.Test.YtlhdfdedhdcmiaaPWr
import Derived.Test.YtlhdfdedhdcmiaaQBitsx50
import Derived.Test.YtlhdfdedhdcmiaaQBitsx7
import Derived.Deep.RegionWith
namespace Go.Proofs.Ytlhdfdedhdcmiaa.QBits
open Go.RowKit Go.Proofs.YtlhdfdedhdcmiaaW.PrintWords Go.Proofs.YtlhdfdedhdcmiaaW.PrintLast Go.Proofs.YtlhdfdedhdcmiaaW.PrintMore Go.Proofs.YtlhdfdedhdcmiaaV
set_option linter.unusedVariables false
set_option linter.unusedSimpArgs false
structure RawX (W : World) (base g : Nat) (v : Value) (B : List Bool) : Prop where
  hg : W.heap[g]? = some (.cells #[v] 67 (0, 0))
  row : W.ownsRow base 4 1 v B.length (bools B)
  bg : base ≤ g
def footX (g : Nat) (v : Value) : Nat → Prop := fun k => k = g ∨ v.ownBlock = some k
def IsX (W : World) (base : Nat) (F : Nat → Prop) (g : Nat) (B : List Bool) : Prop := ∃ v, RawX W base g v B ∧ F = footX g v
theorem RawX.ge {W : World} {base g : Nat} {v : Value} {B : List Bool} (h : RawX W base g v B) : ∀ k, footX g v k → base ≤ k ∧ k < W.heap.size := by
  rintro k (rfl | hk)
  · exact ⟨h.bg, blk_lt h.hg⟩
  · exact ⟨own_base h.row k hk, own_lt h.row k hk⟩
theorem IsX.ge {W : World} {base g : Nat} {F : Nat → Prop} {B : List Bool} (h : IsX W base F g B) : ∀ k, F k → base ≤ k ∧ k < W.heap.size := by
  obtain ⟨v, h, rfl⟩ := h
  exact h.ge
theorem RawX.same {W W' : World} {base g : Nat} {v : Value} {B : List Bool} (h : RawX W base g v B) (hs : W.heap.size ≤ W'.heap.size) (hb : ∀ k, k < W.heap.size → footX g v k → W'.heap[k]? = W.heap[k]?) : RawX W' base g v B := by
  refine ⟨(hb g (blk_lt h.hg) (.inl rfl)).trans h.hg, ?_, h.bg⟩
  obtain ⟨h1, h2⟩ := h.row
  refine ⟨h1, ?_⟩
  rcases h2 with h2 | ⟨r, cap, cur, rfl, hr, hh, rest⟩
  · exact .inl h2
  · exact .inr ⟨r, cap, cur, rfl, hr, (hb r (blk_lt hh) (.inr rfl)).trans hh, rest⟩
theorem IsX.same {W W' : World} {base g : Nat} {F : Nat → Prop} {B : List Bool} (h : IsX W base F g B) (hs : W.heap.size ≤ W'.heap.size) (hb : ∀ k, k < W.heap.size → F k → W'.heap[k]? = W.heap[k]?) : IsX W' base F g B := by
  obtain ⟨v, h, rfl⟩ := h
  exact ⟨v, h.same hs hb, rfl⟩
theorem IsX.below {W W' : World} {base g : Nat} {F : Nat → Prop} {B : List Bool} (h : IsX W base F g B) (hb : Below W.heap.size W W') : IsX W' base F g B := h.same hb.size (fun k hk _ => hb.block k hk)
theorem IsX.drewN {W : World} {base g : Nat} {F : Nat → Prop} {B : List Bool} (h : IsX W base F g B) (m : Nat) : IsX (W.drewN m) base F g B := h.same (Nat.le_refl _) (fun _ _ _ => rfl)
/-- A bit appended: the row behind the append, the field behind the store. -/
theorem RawX.push {w w1 : World} {base g : Nat} {v v1 : Value} {B B' : List Bool} (h : RawX w base g v B) (hown : w1.ownsRow base 4 1 v1 B'.length (bools B')) (hG : w.grownBy w1 v.ownBlock) (hat : v1.ownBlock = v.ownBlock ∨ ∃ b, v1.ownBlock = some b ∧ w.heap.size ≤ b) :
    RawX (w1.setCell ⟨g, 0, none⟩ v1) base g v1 B' ∧ Moved w (w1.setCell ⟨g, 0, none⟩ v1) (footX g v) (footX g v1) := by
  have hne : some g ≠ v.ownBlock := own_ne h.row h.hg (by decide)
  have G1 := blk_grown h.hg hG hne
  have hne1 : some g ≠ v1.ownBlock := own_ne hown G1 (by decide)
  refine ⟨⟨?_, own_setCell hown (p := ⟨g, 0, none⟩) hne1 _, h.bg⟩, ⟨hG.os, hG.tape, hG.output, by simpa [World.setCell] using hG.size, fun k hk hn => ?_, ?_⟩⟩
  · have h9 := blk_set G1 0 v1
    simp at h9
    exact h9
  · exact (Below.heap_setCell w1 ⟨g, 0, none⟩ _ k (fun e => hn (.inl e))).trans (hG.block k hk (fun e => hn (.inr e.symm)))
  · rintro k (rfl | hk)
    · exact .inl (.inl rfl)
    · rcases hat with h3 | ⟨b, h3, h4⟩
      · exact .inl (.inr (h3.symm.trans hk))
      · exact .inr (by rw [show k = b from Option.some.inj (hk.symm.trans h3)]; exact h4)
theorem bools_snoc (B : List Bool) (b : Bool) : bools B ++ [.bool b] = bools (B ++ [b]) := by simp [bools]
theorem bools_length (B : List Bool) : (bools B).length = B.length := by simp [bools]
theorem infoB : (Try.prog.info? 4).map (fun i => (i.zero, i.size, i.bytes)) = some (some (.bool false), 1, 1) := by kernel_rfl
theorem low_calls {w : World} {base g : Nat} {F : Nat → Prop} {B : List Bool} (h : IsX w base F g B) (hb : base ≤ w.heap.size) (v : Int) (n : Nat) (hv : 0 ≤ v) (hv1 : v ≤ 9223372036854775807) (hm : n ≤ 64) (hn : B.length + n < 67108864) :
    Calls Try.prog 89 #[.pointer (some ⟨g, 0, none⟩), .int .i64 v, .int .i64 (n : Int)] w fun e w' => e = .returned (.tuple #[]) ∧ ∃ F', IsX w' base F' g (B ++ rawB v n) ∧ Moved w w' F F' := by
  have H := Aside0.mk h
  have HB := Aside0.mk hb
  have HV := Aside0.mk hv
  have HV1 := Aside0.mk hv1
  have HM := Aside0.mk hm
  have HN := Aside0.mk hn
  clear h hb hv hv1 hm hn
  go_enter Try.func89, Try.ntmps89
  go_wp2_with fail
  go_loopg [6] (n + 1) (fun kq v6 w' => ∃ (m : Nat) (Fm : Nat → Prop) (Bm : List Bool), v6 = .int .i64 (IntKind.i64.wrap ((m : Int) - 1)) ∧ Aside0 (kq = m + 1) ∧ Aside0 (m ≤ n ∧ Bm ++ rawB v m = B ++ rawB v n) ∧ Aside0 (IsX w' base Fm g Bm) ∧ Aside0 (Moved w w' F Fm))
  case atStart =>
    exact ⟨n, F, B, by rw [i64_w], ⟨rfl⟩, ⟨⟨Nat.le_refl _, rfl⟩⟩, H, ⟨Moved.refl _ _⟩⟩
  case round =>
    obtain ⟨m, Fm, Bm, rfl, HQ, HE, HI, HMv⟩ := hrel
    cases m with
    | zero =>
      have e : IntKind.i64.wrap (((0 : Nat) : Int) - 1) = -1 := by decide
      rw [e]
      go_wp2_with fail
      go_end0
      have h9 := HE.out.2
      simp only [rawB, List.append_nil] at h9
      exact ⟨rfl, Fm, by rw [← h9]; exact HI.out, HMv.out⟩
    | succ m =>
      have e : IntKind.i64.wrap (((m + 1 : Nat) : Int) - 1) = (m : Int) := by have := HE.out.1; have := HM.out; rw [IntKind.wrap_i64]; omega
      rw [e]
      have sh : v / 2 ^ min m 64 = v / 2 ^ m := by have := HE.out.1; have := HM.out; rw [Nat.min_eq_left (by omega)]
      have eu : IntKind.u64.wrap (m : Int) = (m : Int) := by have := HE.out.1; have := HM.out; rw [IntKind.wrap_u64]; omega
      have hS := shr1 (m := m) HV.out HV1.out
      have HLE : Aside0 (Bm.length < 67108864) := ⟨by have h1 := congrArg List.length HE.out.2; have h2 := HE.out.1; have h3 := HN.out; simp only [List.length_append, rawB_length] at h1; omega⟩
      obtain ⟨vb, hR, hF⟩ := HI.out
      have HR := Aside0.mk hR
      have HF := Aside0.mk hF
      have cg0 : wr.cell? ⟨g, 0, none⟩ = some vb := (blk_cell hR.hg 0).trans rfl
      have fg0 := blk_frozen hR.hg 0
      obtain ⟨A, c, rfl⟩ := own_slice hR.row
      clear hR hF
      obtain ⟨bb, hbb⟩ : ∃ bb, bb = decide ((v / 2 ^ m) % 2 = 1) := ⟨_, rfl⟩
      have HBB := Aside0.mk hbb
      rw [← hbb] at hS
      clear hbb
      go_wp2_with (at_builtin; refine print_append (w0 := w) (W := wr) base rfl (.tmp 17) (.tmp 24) 65 4 (.bool false) 1 rfl Try.underlying65 infoB rfl (by decide) _ (bools Bm) _ rfl rfl rfl (by rw [bools_length]; exact HR.out.row) (HMv.out.below (fun k hk => (H.out.ge k hk).1) HB.out) (Nat.le_trans HB.out HMv.out.size) (by have := HLE.out; rw [bools_length]; omega) ?_)
      intro v1 w1 hown hB2 hG hat
      rw [bools_length, show ((bI bb == 1) : Bool) = bb from by cases bb <;> rfl, bools_snoc] at hown
      have hown2 : w1.ownsRow base 4 1 v1 (Bm ++ [bb]).length (bools (Bm ++ [bb])) := by rw [List.length_append]; exact hown
      obtain ⟨P1, P2⟩ := HR.out.push hown2 hG hat
      have G1 := blk_grown HR.out.hg hG (own_ne HR.out.row HR.out.hg (by decide))
      have cg1 : w1.cell? ⟨g, 0, none⟩ = some _ := (blk_cell G1 0).trans rfl
      have fg1 := blk_frozen G1 0
      obtain ⟨A1, c1, rfl⟩ := own_slice hown
      have HI2 := Aside0.mk (show IsX _ base _ g (Bm ++ [bb]) from ⟨_, P1, rfl⟩)
      have HM2 := Aside0.mk (HMv.out.trans (by rw [HF.out]; exact P2))
      clear hown hown2 hB2 hG hat P1 P2 G1 cg0 fg0
      go_wp2_with fail
      go_roundg (m + 1)
      case measure => have := HQ.out; omega
      case rel =>
        refine ⟨m, _, _, ?_, ⟨rfl⟩, ⟨⟨?_, ?_⟩⟩, HI2, HM2⟩
        · simp only [i64_w]
        · have := HE.out.1; omega
        · rw [← HE.out.2, List.append_assoc, HBB.out]; rfl
theorem ones_calls {w : World} {base g : Nat} {F : Nat → Prop} {B : List Bool} (h : IsX w base F g B) (hb : base ≤ w.heap.size) (n : Nat) (hm : n ≤ 9223372036854775807) (hn : B.length + n + 1 < 67108864) :
    Calls Try.prog 90 #[.pointer (some ⟨g, 0, none⟩), .int .i64 (n : Int)] w fun e w' => e = .returned (.tuple #[]) ∧ ∃ F', IsX w' base F' g (B ++ zerosB n) ∧ Moved w w' F F' := by
  have H := Aside0.mk h
  have HB := Aside0.mk hb
  have HM := Aside0.mk hm
  have HN := Aside0.mk hn
  clear h hb hm hn
  go_enter Try.func90, Try.ntmps90
  go_wp2_with fail
  go_loopg [4] (n + 1) (fun kq v5 w' => ∃ (m : Nat) (Fm : Nat → Prop) (Bm : List Bool), v5 = .int .i64 (m : Int) ∧ Aside0 (kq = n - m + 1) ∧ Aside0 (m ≤ n ∧ Bm = B ++ List.replicate m false) ∧ Aside0 (IsX w' base Fm g Bm) ∧ Aside0 (Moved w w' F Fm))
  case atStart =>
    exact ⟨0, F, B, rfl, ⟨rfl⟩, ⟨⟨Nat.zero_le _, by simp⟩⟩, H, ⟨Moved.refl _ _⟩⟩
  case round =>
    obtain ⟨m, Fm, Bm, rfl, HQ, HE, HI, HMv⟩ := hrel
    have HLE : Aside0 (Bm.length < 67108864) := ⟨by rw [HE.out.2]; have := HE.out.1; have := HN.out; simp; omega⟩
    have e3 : wrap64 ((m : Int) + 1) = ((m + 1 : Nat) : Int) := by have := HM.out; have := HN.out; have := HE.out.1; unfold wrap64; omega
    obtain ⟨vb, hR, hF⟩ := HI.out
    have HR := Aside0.mk hR
    have HF := Aside0.mk hF
    have cg0 : wr.cell? ⟨g, 0, none⟩ = some vb := (blk_cell hR.hg 0).trans rfl
    have fg0 := blk_frozen hR.hg 0
    obtain ⟨A, c, rfl⟩ := own_slice hR.row
    clear hR hF
    by_cases hlt : m < n
    · have e1 : decide ((m : Int) < (n : Int)) = true := decide_eq_true (by omega)
      have e2 : decide (m < n) = true := decide_eq_true hlt
      have HLT := Aside0.mk hlt
      clear hlt
      go_wp2_with (at_builtin; refine print_append (w0 := w) (W := wr) base rfl (.tmp 14) (.tmp 15) 65 4 (.bool false) 1 rfl Try.underlying65 infoB rfl (by decide) _ (bools Bm) _ rfl rfl rfl (by rw [bools_length]; exact HR.out.row) (HMv.out.below (fun k hk => (H.out.ge k hk).1) HB.out) (Nat.le_trans HB.out HMv.out.size) (by have := HLE.out; rw [bools_length]; omega) ?_)
      intro v1 w1 hown hB2 hG hat
      rw [bools_length, bools_snoc] at hown
      have hown2 : w1.ownsRow base 4 1 v1 (Bm ++ [false]).length (bools (Bm ++ [false])) := by rw [List.length_append]; exact hown
      obtain ⟨P1, P2⟩ := HR.out.push hown2 hG hat
      have G1 := blk_grown HR.out.hg hG (own_ne HR.out.row HR.out.hg (by decide))
      have cg1 : w1.cell? ⟨g, 0, none⟩ = some _ := (blk_cell G1 0).trans rfl
      have fg1 := blk_frozen G1 0
      obtain ⟨A1, c1, rfl⟩ := own_slice hown
      have HI2 := Aside0.mk (show IsX _ base _ g (Bm ++ [false]) from ⟨_, P1, rfl⟩)
      have HM2 := Aside0.mk (HMv.out.trans (by rw [HF.out]; exact P2))
      clear hown hown2 hB2 hG hat P1 P2 G1 cg0 fg0
      go_wp2_with fail
      go_roundg (n - (m + 1) + 1)
      case measure => have := HQ.out; have := HLT.out; omega
      case rel =>
        refine ⟨m + 1, _, _, by rw [e3], ⟨rfl⟩, ⟨⟨HLT.out, ?_⟩⟩, HI2, HM2⟩
        rw [HE.out.2, List.append_assoc, List.replicate_succ']
    · have hz : m = n := by have := HE.out.1; omega
      subst hz
      have e1 : decide ((m : Int) < (m : Int)) = false := by simp
      have e2 : decide (m < m) = false := by simp
      clear hlt
      go_wp2_with (at_builtin; refine print_append (w0 := w) (W := wr) base rfl (.tmp 23) (.tmp 24) 65 4 (.bool false) 1 rfl Try.underlying65 infoB rfl (by decide) _ (bools Bm) _ rfl rfl rfl (by rw [bools_length]; exact HR.out.row) (HMv.out.below (fun k hk => (H.out.ge k hk).1) HB.out) (Nat.le_trans HB.out HMv.out.size) (by have := HLE.out; rw [bools_length]; omega) ?_)
      intro v1 w1 hown hB2 hG hat
      rw [bools_length, bools_snoc] at hown
      have hown2 : w1.ownsRow base 4 1 v1 (Bm ++ [true]).length (bools (Bm ++ [true])) := by rw [List.length_append]; exact hown
      obtain ⟨P1, P2⟩ := HR.out.push hown2 hG hat
      have G1 := blk_grown HR.out.hg hG (own_ne HR.out.row HR.out.hg (by decide))
      have cg1 : w1.cell? ⟨g, 0, none⟩ = some _ := (blk_cell G1 0).trans rfl
      have fg1 := blk_frozen G1 0
      obtain ⟨A1, c1, rfl⟩ := own_slice hown
      have HI2 := Aside0.mk (show IsX _ base _ g (Bm ++ [true]) from ⟨_, P1, rfl⟩)
      have HM2 := Aside0.mk (HMv.out.trans (by rw [HF.out]; exact P2))
      clear hown hown2 hB2 hG hat P1 P2 G1 cg0 fg0
      go_wp2_with fail
      go_end0
      refine ⟨rfl, _, ?_, HM2.out⟩
      have h9 : Bm ++ [true] = B ++ zerosB m := by rw [HE.out.2, List.append_assoc]; rfl
      rw [← h9]
      exact HI2.out
end Go.Proofs.Ytlhdfdedhdcmiaa.QBits
namespace Go.Proofs.Ytlhdfdedhdcmiaa.QBits
open Go.RowKit Go.Proofs.YtlhdfdedhdcmiaaW.PrintWords Go.Proofs.YtlhdfdedhdcmiaaW.PrintLast Go.Proofs.YtlhdfdedhdcmiaaW.PrintMore Go.Proofs.YtlhdfdedhdcmiaaV
set_option linter.unusedVariables false
set_option linter.unusedSimpArgs false
theorem xroom_calls {w : World} {base g : Nat} {F : Nat → Prop} {B : List Bool} (h : IsX w base F g B) (hl : B.length ≤ 67108864) (n : Int) (h0 : -4611686018427387904 ≤ n) (h1 : n ≤ 4611686018427387904) :
    Calls Try.prog 88 #[.pointer (some ⟨g, 0, none⟩), .int .i64 n] w fun e w' => e = .returned (.bool (decide ((B.length : Int) + n ≤ 8388608))) ∧ ∃ m, w' = w.drewN m := by
  obtain ⟨v, h, rfl⟩ := h
  obtain ⟨A, c, rfl⟩ := own_slice h.row
  have cg0 : w.cell? ⟨g, 0, none⟩ = some (.slice A B.length c) := (blk_cell h.hg 0).trans rfl
  have e1 : IntKind.i64.wrap (8388608 - (B.length : Int)) = 8388608 - (B.length : Int) := by rw [IntKind.wrap_i64]; omega
  have e2 : wrap64 (8388608 - (B.length : Int)) = 8388608 - (B.length : Int) := by unfold wrap64; omega
  have e3 : decide (n ≤ 8388608 - (B.length : Int)) = decide ((B.length : Int) + n ≤ 8388608) := by congr 1; apply propext; omega
  clear h hl h0 h1
  go_enter Try.func88, Try.ntmps88
  go_wp2
  go_ret
  exact ⟨by rw [← e3]; first | rfl | simp [e1, e2], 0, rfl⟩
theorem xput_calls {w : World} {base g : Nat} {F : Nat → Prop} {B : List Bool} (h : IsX w base F g B) (hb : base ≤ w.heap.size) (hl : B.length ≤ 8388608) (v n : Int) (hv1 : v ≤ 9223372036854775807) :
    Calls Try.prog 74 #[.pointer (some ⟨g, 0, none⟩), (.int .i64 v), (.int .i64 n)] w fun e w' => e = .returned (.int .i64 (putF v n B).1) ∧ ∃ F', IsX w' base F' g (putF v n B).2 ∧ Moved w w' F F' := by
  have H := Aside0.mk h
  have HB := Aside0.mk hb
  have HL := Aside0.mk hl
  have HV1 := Aside0.mk hv1
  clear h hb hl hv1
  unfold putF
  by_cases c1 : n < 0
  · rw [if_pos c1]
    have b1 : decide (n < 0) = true := decide_eq_true c1
    clear c1
    go_enter Try.func74, Try.ntmps74
    go_wp2_with fail
    go_ret
    exact ⟨rfl, F, H.out, Moved.refl _ _⟩
  rw [if_neg c1]
  obtain ⟨m, rfl⟩ := Int.eq_ofNat_of_zero_le (show 0 ≤ n by omega)
  have b1 : decide ((m : Int) < 0) = false := decide_eq_false c1
  clear c1
  by_cases c2 : 32 < (m : Int)
  · rw [if_pos c2]
    have b2 : decide (32 < (m : Int)) = true := decide_eq_true c2
    have b3 : decide (32 < m) = true := decide_eq_true (by omega)
    clear c2
    go_enter Try.func74, Try.ntmps74
    go_wp2_with fail
    go_ret
    exact ⟨rfl, F, H.out, Moved.refl _ _⟩
  rw [if_neg c2]
  have HM : Aside0 (m ≤ 32) := ⟨by omega⟩
  have b2 : decide (32 < (m : Int)) = false := decide_eq_false c2
  have b3 : decide (32 < m) = false := decide_eq_false (by omega)
  clear c2
  by_cases c3 : v < 0
  · rw [if_pos c3]
    have b4 : decide (v < 0) = true := decide_eq_true c3
    clear c3
    go_enter Try.func74, Try.ntmps74
    go_wp2_with fail
    go_ret
    exact ⟨rfl, F, H.out, Moved.refl _ _⟩
  rw [if_neg c3, Int.toNat_natCast]
  have HV0 : Aside0 (0 ≤ v) := ⟨by omega⟩
  have b4 : decide (v < 0) = false := decide_eq_false c3
  clear c3
  have eu : IntKind.u64.wrap (m : Int) = (m : Int) := by have := HM.out; rw [IntKind.wrap_u64]; omega
  have hp : (2 : Nat) ^ m ≤ 4294967296 := Nat.pow_le_pow_right (n := 2) (by omega) HM.out
  obtain ⟨z, hz⟩ : ∃ z : Nat, z = 2 ^ m := ⟨_, rfl⟩
  have hzI : (2 : Int) ^ m = (z : Int) := by rw [hz]; norm_cast
  have sh : IntKind.i64.wrap (2 ^ min m 64) = (z : Int) := by have := HM.out; rw [Nat.min_eq_left (by omega), hzI, IntKind.wrap_i64]; omega
  have sh2 : wrap64 (2 ^ min m 64) = (z : Int) := by have := HM.out; rw [Nat.min_eq_left (by omega), hzI]; unfold wrap64; omega
  have hz0 : 0 < z := by rw [hz]; exact Nat.two_pow_pos m
  have hd : 0 < v / 2 ^ m ↔ (z : Int) ≤ v := by
    rw [hzI]
    constructor
    · intro h; exact Int.not_lt.mp (fun hlt => by rw [Int.ediv_eq_zero_of_lt HV0.out hlt] at h; omega)
    · intro h; exact Int.lt_of_lt_of_le (show (0 : Int) < 1 by omega) (Int.le_ediv_of_mul_le (by omega) (by omega))
  by_cases c4 : 0 < v / 2 ^ m
  · rw [if_pos c4]
    have b5 : decide ((z : Int) ≤ v) = true := decide_eq_true (hd.mp c4)
    clear c4 hd hz hzI hp hz0
    go_enter Try.func74, Try.ntmps74
    go_wp2_with fail
    go_ret
    exact ⟨rfl, F, H.out, Moved.refl _ _⟩
  rw [if_neg c4]
  have b5 : decide ((z : Int) ≤ v) = false := decide_eq_false (fun h => c4 (hd.mpr h))
  clear c4 hd hz hzI hp hz0
  by_cases c6 : (B.length : Int) + (m : Int) ≤ 8388608
  · rw [if_pos c6]
    have HR := Aside0.mk c6
    clear c6
    go_enter Try.func74, Try.ntmps74
    go_wp2_with fail
    refine (xroom_calls H.out (by have := HL.out; omega) ((m : Int)) (by omega) (by have := HM.out; omega)).mono ?_
    rintro e w2 ⟨rfl, m2, rfl⟩
    rw [show decide ((B.length : Int) + ((m : Int)) ≤ 8388608) = true from decide_eq_true (by have := HR.out; omega)]
    go_wp2_with fail
    refine (low_calls (H.out.drewN m2) HB.out v m HV0.out HV1.out (by have := HM.out; omega) (by have := HL.out; have := HM.out; omega)).mono ?_
    rintro e w3 ⟨rfl, F2, I2, M2⟩
    have HI2 := Aside0.mk I2
    have HM2 := Aside0.mk M2
    clear I2 M2
    go_wp2_with fail
    go_ret
    exact ⟨rfl, F2, HI2.out, ((Moved.refl w F).drewN m2).trans HM2.out⟩
  · rw [if_neg c6]
    have HR := Aside0.mk c6
    clear c6
    go_enter Try.func74, Try.ntmps74
    go_wp2_with fail
    refine (xroom_calls H.out (by have := HL.out; omega) ((m : Int)) (by omega) (by have := HM.out; omega)).mono ?_
    rintro e w2 ⟨rfl, m2, rfl⟩
    rw [show decide ((B.length : Int) + ((m : Int)) ≤ 8388608) = false from decide_eq_false (by have := HR.out; omega)]
    go_wp2_with fail
    go_ret
    exact ⟨rfl, F, H.out.drewN _, (Moved.refl _ _).drewN _⟩
theorem xunary_calls {w : World} {base g : Nat} {F : Nat → Prop} {B : List Bool} (h : IsX w base F g B) (hb : base ≤ w.heap.size) (hl : B.length ≤ 8388608) (n : Int) :
    Calls Try.prog 75 #[.pointer (some ⟨g, 0, none⟩), (.int .i64 n)] w fun e w' => e = .returned (.int .i64 (unaryF n B).1) ∧ ∃ F', IsX w' base F' g (unaryF n B).2 ∧ Moved w w' F F' := by
  have H := Aside0.mk h
  have HB := Aside0.mk hb
  have HL := Aside0.mk hl
  clear h hb hl
  unfold unaryF
  by_cases c1 : n < 0
  · rw [if_pos c1]
    have b1 : decide (n < 0) = true := decide_eq_true c1
    clear c1
    go_enter Try.func75, Try.ntmps75
    go_wp2_with fail
    go_ret
    exact ⟨rfl, F, H.out, Moved.refl _ _⟩
  rw [if_neg c1]
  obtain ⟨m, rfl⟩ := Int.eq_ofNat_of_zero_le (show 0 ≤ n by omega)
  have b1 : decide ((m : Int) < 0) = false := decide_eq_false c1
  clear c1
  by_cases c2 : 65535 < (m : Int)
  · rw [if_pos c2]
    have b2 : decide (65535 < (m : Int)) = true := decide_eq_true c2
    have b3 : decide (65535 < m) = true := decide_eq_true (by omega)
    clear c2
    go_enter Try.func75, Try.ntmps75
    go_wp2_with fail
    go_ret
    exact ⟨rfl, F, H.out, Moved.refl _ _⟩
  rw [if_neg c2, Int.toNat_natCast]
  have HM : Aside0 (m ≤ 65535) := ⟨by omega⟩
  have b2 : decide (65535 < (m : Int)) = false := decide_eq_false c2
  have b3 : decide (65535 < m) = false := decide_eq_false (by omega)
  have e1 : wrap64 ((m : Int) + 1) = (m : Int) + 1 := by unfold wrap64; omega
  clear c2
  by_cases c6 : (B.length : Int) + ((m : Int) + 1) ≤ 8388608
  · rw [if_pos c6]
    have HR := Aside0.mk c6
    clear c6
    go_enter Try.func75, Try.ntmps75
    go_wp2_with fail
    try rw [e1]
    refine (xroom_calls H.out (by have := HL.out; omega) ((m : Int) + 1) (by omega) (by have := HM.out; omega)).mono ?_
    rintro e w2 ⟨rfl, m2, rfl⟩
    rw [show decide ((B.length : Int) + ((m : Int) + 1) ≤ 8388608) = true from decide_eq_true (by have := HR.out; omega)]
    go_wp2_with fail
    refine (ones_calls (H.out.drewN m2) HB.out m (by have := HM.out; omega) (by have := HL.out; have := HM.out; omega)).mono ?_
    rintro e w3 ⟨rfl, F2, I2, M2⟩
    have HI2 := Aside0.mk I2
    have HM2 := Aside0.mk M2
    clear I2 M2
    go_wp2_with fail
    go_ret
    exact ⟨rfl, F2, HI2.out, ((Moved.refl w F).drewN m2).trans HM2.out⟩
  · rw [if_neg c6]
    have HR := Aside0.mk c6
    clear c6
    go_enter Try.func75, Try.ntmps75
    go_wp2_with fail
    try rw [e1]
    refine (xroom_calls H.out (by have := HL.out; omega) ((m : Int) + 1) (by omega) (by have := HM.out; omega)).mono ?_
    rintro e w2 ⟨rfl, m2, rfl⟩
    rw [show decide ((B.length : Int) + ((m : Int) + 1) ≤ 8388608) = false from decide_eq_false (by have := HR.out; omega)]
    go_wp2_with fail
    go_ret
    exact ⟨rfl, F, H.out.drewN _, (Moved.refl _ _).drewN _⟩
theorem xrice_calls {w : World} {base g : Nat} {F : Nat → Prop} {B : List Bool} (h : IsX w base F g B) (hb : base ≤ w.heap.size) (hl : B.length ≤ 8388608) (v k : Int) (hv1 : v ≤ 9223372036854775807) :
    Calls Try.prog 76 #[.pointer (some ⟨g, 0, none⟩), (.int .i64 v), (.int .i64 k)] w fun e w' => e = .returned (.int .i64 (riceF v k B).1) ∧ ∃ F', IsX w' base F' g (riceF v k B).2 ∧ Moved w w' F F' := by
  have H := Aside0.mk h
  have HB := Aside0.mk hb
  have HL := Aside0.mk hl
  have HV1 := Aside0.mk hv1
  clear h hb hl hv1
  unfold riceF
  by_cases c1 : k < 0
  · rw [if_pos c1]
    have b1 : decide (k < 0) = true := decide_eq_true c1
    clear c1
    go_enter Try.func76, Try.ntmps76
    go_wp2_with fail
    go_ret
    exact ⟨rfl, F, H.out, Moved.refl _ _⟩
  rw [if_neg c1]
  obtain ⟨m, rfl⟩ := Int.eq_ofNat_of_zero_le (show 0 ≤ k by omega)
  have b1 : decide ((m : Int) < 0) = false := decide_eq_false c1
  clear c1
  by_cases c2 : 24 < (m : Int)
  · rw [if_pos c2]
    have b2 : decide (24 < (m : Int)) = true := decide_eq_true c2
    have b3 : decide (24 < m) = true := decide_eq_true (by omega)
    clear c2
    go_enter Try.func76, Try.ntmps76
    go_wp2_with fail
    go_ret
    exact ⟨rfl, F, H.out, Moved.refl _ _⟩
  rw [if_neg c2]
  have HM : Aside0 (m ≤ 24) := ⟨by omega⟩
  have b2 : decide (24 < (m : Int)) = false := decide_eq_false c2
  have b3 : decide (24 < m) = false := decide_eq_false (by omega)
  clear c2
  by_cases c3 : v < 0
  · rw [if_pos c3]
    have b4 : decide (v < 0) = true := decide_eq_true c3
    clear c3
    go_enter Try.func76, Try.ntmps76
    go_wp2_with fail
    go_ret
    exact ⟨rfl, F, H.out, Moved.refl _ _⟩
  rw [if_neg c3, Int.toNat_natCast]
  have HV0 : Aside0 (0 ≤ v) := ⟨by omega⟩
  have b4 : decide (v < 0) = false := decide_eq_false c3
  clear c3
  have eu : IntKind.u64.wrap (m : Int) = (m : Int) := by have := HM.out; rw [IntKind.wrap_u64]; omega
  have sh : v / 2 ^ min m 64 = v / 2 ^ m := by have := HM.out; rw [Nat.min_eq_left (by omega)]
  obtain ⟨z, hz⟩ : ∃ z : Nat, v / 2 ^ m = (z : Int) := Int.eq_ofNat_of_zero_le (Int.ediv_nonneg HV0.out (Int.pow_nonneg (by omega)))
  rw [hz] at sh ⊢
  by_cases c4 : 65535 < (z : Int)
  · rw [if_pos c4]
    have b5 : decide (65535 < (z : Int)) = true := decide_eq_true c4
    have b6 : decide (65535 < z) = true := decide_eq_true (by omega)
    clear c4
    go_enter Try.func76, Try.ntmps76
    go_wp2_with fail
    go_ret
    exact ⟨rfl, F, H.out, Moved.refl _ _⟩
  rw [if_neg c4, Int.toNat_natCast]
  have HZ : Aside0 (z ≤ 65535) := ⟨by omega⟩
  have b5 : decide (65535 < (z : Int)) = false := decide_eq_false c4
  have b6 : decide (65535 < z) = false := decide_eq_false (by omega)
  have e1 : wrap64 ((z : Int) + 1) = (z : Int) + 1 := by unfold wrap64; omega
  have e2 : wrap64 ((z : Int) + 1 + (m : Int)) = (z : Int) + 1 + (m : Int) := by have := HM.out; unfold wrap64; omega
  clear c4
  by_cases c6 : (B.length : Int) + ((z : Int) + 1 + (m : Int)) ≤ 8388608
  · rw [if_pos c6]
    have HR := Aside0.mk c6
    clear c6
    go_enter Try.func76, Try.ntmps76
    go_wp2_with fail
    try rw [e1, e2]
    refine (xroom_calls H.out (by have := HL.out; omega) ((z : Int) + 1 + (m : Int)) (by omega) (by have := HM.out; have := HZ.out; omega)).mono ?_
    rintro e w2 ⟨rfl, m2, rfl⟩
    rw [show decide ((B.length : Int) + ((z : Int) + 1 + (m : Int)) ≤ 8388608) = true from decide_eq_true (by have := HR.out; omega)]
    go_wp2_with fail
    refine (ones_calls (H.out.drewN m2) HB.out z (by have := HZ.out; omega) (by have := HL.out; have := HZ.out; omega)).mono ?_
    rintro e w3 ⟨rfl, F2, I2, M2⟩
    have HI2 := Aside0.mk I2
    have HM2 := Aside0.mk M2
    clear I2 M2
    go_wp2_with fail
    refine (low_calls HI2.out (Nat.le_trans HB.out HM2.out.size) v m HV0.out HV1.out (by have := HM.out; omega) (by have := HR.out; simp [zerosB]; omega)).mono ?_
    rintro e w4 ⟨rfl, F3, I3, M3⟩
    have HI3 := Aside0.mk I3
    have HM3 := Aside0.mk M3
    clear I3 M3
    go_wp2_with fail
    go_ret
    exact ⟨rfl, F3, HI3.out, (((Moved.refl w F).drewN m2).trans HM2.out).trans HM3.out⟩
  · rw [if_neg c6]
    have HR := Aside0.mk c6
    clear c6
    go_enter Try.func76, Try.ntmps76
    go_wp2_with fail
    try rw [e1, e2]
    refine (xroom_calls H.out (by have := HL.out; omega) ((z : Int) + 1 + (m : Int)) (by omega) (by have := HM.out; have := HZ.out; omega)).mono ?_
    rintro e w2 ⟨rfl, m2, rfl⟩
    rw [show decide ((B.length : Int) + ((z : Int) + 1 + (m : Int)) ≤ 8388608) = false from decide_eq_false (by have := HR.out; omega)]
    go_wp2_with fail
    go_ret
    exact ⟨rfl, F, H.out.drewN _, (Moved.refl _ _).drewN _⟩
theorem length_len : ∀ (f : Nat) (x : Nat) (n : Nat), x < 2 ^ f → n + f < 1000 → f ≤ 64 → dioramaref01_Length.l0 (f + 1) (x : Int) (n : Int) = some ((n + Lib.bitLenAux f x : Nat) : Int)
  | 0, x, n, h, hn, _ => by
    obtain rfl : x = 0 := by simp at h; omega
    simp [dioramaref01_Length.l0, Lib.bitLenAux]
  | f + 1, x, n, h, hn, hf => by
    rw [dioramaref01_Length.l0]
    by_cases h0 : x = 0
    · subst h0
      simp [Lib.bitLenAux]
    · have e1 : wrap64 (Int.tdiv (x : Int) 2) = ((x / 2 : Nat) : Int) := by
        have h1 : x < 2 ^ 64 := Nat.lt_of_lt_of_le h (Nat.pow_le_pow_right (by omega) hf)
        clear h
        rw [Int.tdiv_eq_ediv_of_nonneg (by omega)]
        unfold wrap64
        omega
      have e2 : wrap64 ((n : Int) + 1) = ((n + 1 : Nat) : Int) := by unfold wrap64; omega
      rw [if_pos (by omega), e1, e2, length_len f (x / 2) (n + 1) (by rw [Nat.pow_succ] at h; omega) (by omega) (by omega)]
      simp only [Lib.bitLenAux, if_neg h0]
      congr 2
      omega
theorem xgrow_calls {w : World} {base g : Nat} {F : Nat → Prop} {B : List Bool} (h : IsX w base F g B) (hb : base ≤ w.heap.size) (hl : B.length ≤ 8388608) (v : Int) :
    Calls Try.prog 77 #[.pointer (some ⟨g, 0, none⟩), (.int .i64 v)] w fun e w' => e = .returned (.int .i64 (growF v B).1) ∧ ∃ F', IsX w' base F' g (growF v B).2 ∧ Moved w w' F F' := by
  have H := Aside0.mk h
  have HB := Aside0.mk hb
  have HL := Aside0.mk hl
  clear h hb hl
  unfold growF
  by_cases c1 : v < 0
  · rw [if_pos c1]
    have b1 : decide (v < 0) = true := decide_eq_true c1
    clear c1
    go_enter Try.func77, Try.ntmps77
    go_wp2_with fail
    go_ret
    exact ⟨rfl, F, H.out, Moved.refl _ _⟩
  rw [if_neg c1]
  have HV0 : Aside0 (0 ≤ v) := ⟨by omega⟩
  have b1 : decide (v < 0) = false := decide_eq_false c1
  clear c1
  by_cases c2 : 4294967294 < v
  · rw [if_pos c2]
    have b2 : decide (4294967294 < v) = true := decide_eq_true c2
    clear c2
    go_enter Try.func77, Try.ntmps77
    go_wp2_with fail
    go_ret
    exact ⟨rfl, F, H.out, Moved.refl _ _⟩
  rw [if_neg c2]
  have HV1 : Aside0 (v ≤ 4294967294) := ⟨by omega⟩
  have b2 : decide (4294967294 < v) = false := decide_eq_false c2
  clear c2
  have HL1 : Aside0 (0 < Lib.bitLen (v + 1).toNat) := ⟨bitLen_pos' (by have := HV0.out; omega)⟩
  have HL2 : Aside0 (Lib.bitLen (v + 1).toNat ≤ 32) := ⟨Go.Proofs.Any.bitLen_le32 (v + 1) (by have := HV0.out; omega) (by have := HV1.out; omega)⟩
  have hlen : dioramaref01_Length.f 65 (v + 1) = some (Lib.bitLen (v + 1).toNat : Int) := by
    have := HV0.out; have := HV1.out
    unfold dioramaref01_Length.f
    have h9 := length_len 64 (v + 1).toNat 0 (by omega) (by omega) (by omega)
    rw [Int.toNat_of_nonneg (by omega)] at h9
    rw [show (0 : Int) = ((0 : Nat) : Int) from rfl, h9, Nat.zero_add]
    rfl
  have HLEN := Aside0.mk hlen
  clear hlen
  generalize Lib.bitLen (v + 1).toNat = z at HL1 HL2 HLEN ⊢
  have e1 : wrap64 (v + 1) = v + 1 := by have := HV0.out; have := HV1.out; unfold wrap64; omega
  have e3 : wrap64 (wrap64 (2 * (z : Int)) - 1) = 2 * (z : Int) - 1 := by have := HL2.out; unfold wrap64; omega
  have e4 : wrap64 ((z : Int) - 1) = ((z - 1 : Nat) : Int) := by have := HL1.out; have := HL2.out; unfold wrap64; omega
  by_cases c6 : (B.length : Int) + (2 * (z : Int) - 1) ≤ 8388608
  · rw [if_pos c6]
    have HR := Aside0.mk c6
    clear c6
    go_enter Try.func77, Try.ntmps77
    go_wp2_with fail
    refine (dioramaref01_Length.calls 65 (v + 1) _ _ HLEN.out).mono ?_
    rintro e w5 ⟨rfl, ⟨n5, rfl⟩⟩
    go_wp2_with fail
    refine (xroom_calls (H.out.drewN n5) (by have := HL.out; omega) (2 * (z : Int) - 1) (by omega) (by have := HL2.out; omega)).mono ?_
    rintro e w2 ⟨rfl, m2, rfl⟩
    rw [show decide ((B.length : Int) + (2 * (z : Int) - 1) ≤ 8388608) = true from decide_eq_true (by have := HR.out; omega)]
    go_wp2_with fail
    refine (ones_calls (H.out.drewN (n5 + m2)) HB.out (z - 1) (by have := HL2.out; omega) (by have := HL.out; have := HL2.out; omega)).mono ?_
    rintro e w3 ⟨rfl, F2, I2, M2⟩
    have HI2 := Aside0.mk I2
    have HM2 := Aside0.mk M2
    clear I2 M2
    go_wp2_with fail
    refine (low_calls HI2.out (Nat.le_trans HB.out HM2.out.size) (v + 1) (z - 1) (by have := HV0.out; omega) (by have := HV1.out; omega) (by have := HL2.out; omega) (by have := HR.out; have := HL1.out; simp [zerosB]; omega)).mono ?_
    rintro e w4 ⟨rfl, F3, I3, M3⟩
    have HI3 := Aside0.mk I3
    have HM3 := Aside0.mk M3
    clear I3 M3
    go_wp2_with fail
    go_ret
    exact ⟨rfl, F3, HI3.out, (((Moved.refl w F).drewN (n5 + m2)).trans HM2.out).trans HM3.out⟩
  · rw [if_neg c6]
    have HR := Aside0.mk c6
    clear c6
    go_enter Try.func77, Try.ntmps77
    go_wp2_with fail
    refine (dioramaref01_Length.calls 65 (v + 1) _ _ HLEN.out).mono ?_
    rintro e w5 ⟨rfl, ⟨n5, rfl⟩⟩
    go_wp2_with fail
    refine (xroom_calls (H.out.drewN n5) (by have := HL.out; omega) (2 * (z : Int) - 1) (by omega) (by have := HL2.out; omega)).mono ?_
    rintro e w2 ⟨rfl, m2, rfl⟩
    rw [show decide ((B.length : Int) + (2 * (z : Int) - 1) ≤ 8388608) = false from decide_eq_false (by have := HR.out; omega)]
    go_wp2_with fail
    go_ret
    exact ⟨rfl, F, H.out.drewN _, (Moved.refl _ _).drewN _⟩
end Go.Proofs.Ytlhdfdedhdcmiaa.QBits
namespace Go.Proofs.Ytlhdfdedhdcmiaa.QBits
open Go.RowKit Go.Proofs.YtlhdfdedhdcmiaaW.PrintWords Go.Proofs.YtlhdfdedhdcmiaaW.PrintLast Go.Proofs.YtlhdfdedhdcmiaaW.PrintMore Go.Proofs.YtlhdfdedhdcmiaaV
set_option linter.unusedVariables false
set_option linter.unusedSimpArgs false
theorem xalign_calls {w : World} {base g : Nat} {F : Nat → Prop} {B : List Bool} (h : IsX w base F g B) (hb : base ≤ w.heap.size) (hl : B.length ≤ 8388608) :
    Calls Try.prog 78 #[.pointer (some ⟨g, 0, none⟩)] w fun e w' => e = .returned (.tuple #[]) ∧ ∃ F', IsX w' base F' g (alignB B) ∧ Moved w w' F F' := by
  have H := Aside0.mk h
  have HB := Aside0.mk hb
  have HL := Aside0.mk hl
  obtain ⟨n, hn⟩ : ∃ n, n = (8 - B.length % 8) % 8 := ⟨_, rfl⟩
  have HN := Aside0.mk hn
  clear h hb hl hn
  go_enter Try.func78, Try.ntmps78
  go_wp2_with fail
  go_loopg [2] (n + 1) (fun kq v2 w' => ∃ (m : Nat) (Fm : Nat → Prop) (Bm : List Bool), Aside0 (kq = n - m + 1) ∧ Aside0 (m ≤ n ∧ Bm = B ++ List.replicate m false) ∧ Aside0 (IsX w' base Fm g Bm) ∧ Aside0 (Moved w w' F Fm))
  case atStart =>
    exact ⟨0, F, B, ⟨rfl⟩, ⟨⟨Nat.zero_le _, by simp⟩⟩, H, ⟨Moved.refl _ _⟩⟩
  case round =>
    obtain ⟨m, Fm, Bm, HQ, HE, HI, HMv⟩ := hrel
    have HLE : Aside0 (Bm.length < 67108864) := ⟨by rw [HE.out.2]; have := HE.out.1; have := HN.out; have := HL.out; simp; omega⟩
    have HLM : Aside0 (Bm.length = B.length + m) := ⟨by rw [HE.out.2]; simp⟩
    obtain ⟨vb, hR, hF⟩ := HI.out
    have HR := Aside0.mk hR
    have HF := Aside0.mk hF
    have cg0 : wr.cell? ⟨g, 0, none⟩ = some vb := (blk_cell hR.hg 0).trans rfl
    have fg0 := blk_frozen hR.hg 0
    obtain ⟨A, c, rfl⟩ := own_slice hR.row
    clear hR hF
    by_cases hlt : m < n
    · have e1 : ((Bm.length : Int) % 8 == 0) = false := beq_eq_false_iff_ne.mpr (by have := HLM.out; have := HN.out; omega)
      have e2 : ((Bm.length : Int) % 8 != 0) = true := bne_iff_ne.mpr (by have := HLM.out; have := HN.out; omega)
      have HLT := Aside0.mk hlt
      clear hlt
      go_wp2_with (at_builtin; refine print_append (w0 := w) (W := wr) base rfl (.tmp 13) (.tmp 14) 65 4 (.bool false) 1 rfl Try.underlying65 infoB rfl (by decide) _ (bools Bm) _ rfl rfl rfl (by rw [bools_length]; exact HR.out.row) (HMv.out.below (fun k hk => (H.out.ge k hk).1) HB.out) (Nat.le_trans HB.out HMv.out.size) (by have := HLE.out; rw [bools_length]; omega) ?_)
      intro v1 w1 hown hB2 hG hat
      rw [bools_length, bools_snoc] at hown
      have hown2 : w1.ownsRow base 4 1 v1 (Bm ++ [false]).length (bools (Bm ++ [false])) := by rw [List.length_append]; exact hown
      obtain ⟨P1, P2⟩ := HR.out.push hown2 hG hat
      have G1 := blk_grown HR.out.hg hG (own_ne HR.out.row HR.out.hg (by decide))
      have cg1 : w1.cell? ⟨g, 0, none⟩ = some _ := (blk_cell G1 0).trans rfl
      have fg1 := blk_frozen G1 0
      obtain ⟨A1, c1, rfl⟩ := own_slice hown
      have HI2 := Aside0.mk (show IsX _ base _ g (Bm ++ [false]) from ⟨_, P1, rfl⟩)
      have HM2 := Aside0.mk (HMv.out.trans (by rw [HF.out]; exact P2))
      clear hown hown2 hB2 hG hat P1 P2 G1 cg0 fg0
      go_wp2_with fail
      go_roundg (n - (m + 1) + 1)
      case measure => have := HQ.out; have := HLT.out; omega
      case rel =>
        refine ⟨m + 1, _, _, ⟨rfl⟩, ⟨⟨HLT.out, ?_⟩⟩, HI2, HM2⟩
        rw [HE.out.2, List.append_assoc, List.replicate_succ']
    · have hz : m = n := by have := HE.out.1; omega
      have e1 : ((Bm.length : Int) % 8 == 0) = true := beq_iff_eq.mpr (by have := HLM.out; have := HN.out; omega)
      have e2 : ((Bm.length : Int) % 8 != 0) = false := bne_eq_false_iff_eq.mpr (by have := HLM.out; have := HN.out; omega)
      have h9 : Bm = alignB B := by rw [HE.out.2, hz, HN.out]; rfl
      have HI2 : Aside0 (IsX wr base Fm g (alignB B)) := ⟨by rw [← h9]; exact HI.out⟩
      clear hlt hz h9
      go_wp2_with fail
      go_end0
      exact ⟨rfl, _, HI2.out, HMv.out⟩
def padB (m : Nat) (B : List Bool) : List Int := (List.range m).map (fun i => (byteB B i : Int))
theorem padB_pack (B : List Bool) : padB ((B.length + 7) / 8) B = packB B := rfl
theorem padB_length (m : Nat) (B : List Bool) : (padB m B).length = m := by simp [padB]
theorem padB_nil (m : Nat) : padB m [] = List.replicate m 0 := by
  apply List.ext_getElem
  · simp [padB]
  · intro i h1 h2
    simp [padB, byteB, bsum, bitAt, bw]
theorem padB_rd {m : Nat} {B : List Bool} {i : Nat} (h : i < m) : rd (padB m B) (i : Int) = (byteB B i : Int) := by
  unfold rd
  rw [Int.toNat_natCast, List.getD_eq_getElem?_getD, List.getElem?_eq_getElem (by rw [padB_length]; exact h)]
  simp [padB]
theorem padB_snoc {m : Nat} {B : List Bool} (b : Bool) (h : B.length / 8 < m) : padB m (B ++ [b]) = (padB m B).set (B.length / 8) ((byteB B (B.length / 8) + bw b (2 ^ (7 - B.length % 8)) : Nat) : Int) := by
  apply List.ext_getElem
  · simp [padB]
  · intro i h1 h2
    rw [List.getElem_set]
    simp only [padB, List.getElem_map, List.getElem_range]
    by_cases e : B.length / 8 = i
    · subst e
      rw [if_pos rfl, (last_byte B b).1]
    · rw [if_neg e]
      by_cases e2 : 8 * i + 8 ≤ B.length
      · rw [byteB_snoc_lt e2]
      · have hi : B.length ≤ 8 * i := by omega
        congr 1
        unfold byteB
        congr 1
        funext j
        rw [bitAt_snoc_gt (by omega), bitAt_ge (by omega)]
theorem padB_false {m : Nat} {B : List Bool} : padB m (B ++ [false]) = padB m B := by
  unfold padB
  apply List.map_congr_left
  intro i _
  congr 1
  unfold byteB
  congr 1
  funext j
  by_cases h : 8 * i + j < B.length
  · rw [bitAt_snoc_lt h]
  · rw [bitAt_ge (B := B) (by omega)]
    by_cases e : 8 * i + j = B.length
    · rw [e, bitAt_snoc_eq]
    · rw [bitAt_snoc_gt (by omega)]
theorem meas_lt {g n i : Nat} (h : g = n - i + 1) (h' : i < n) : n - (i + 1) + 1 < g := by omega
theorem lt_bytes {i n : Nat} (h : i < n) : i / 8 < (n + 7) / 8 := by omega
theorem idx_ar {i q j s : Nat} (hi : i < 67108864) (hq : q = i / 8) (hj : j = i % 8) (hs : s = 7 - j) : (i : Int) / 8 = (q : Int) ∧ (i : Int).tdiv 8 = (q : Int) ∧ IntKind.i64.wrap (q : Int) = (q : Int) ∧ (i : Int) % 8 = (j : Int) ∧ (i : Int).tmod 8 = (j : Int) ∧ IntKind.i64.wrap (7 - (j : Int)) = (s : Int) ∧ IntKind.u64.wrap (s : Int) = (s : Int) ∧ wrap64 (q : Int) = (q : Int) ∧ wrap64 (7 - (j : Int)) = (s : Int) := by
  have h1 : (i : Int) / 8 = (q : Int) := by omega
  have h2 : (i : Int) % 8 = (j : Int) := by omega
  have hq2 : q < 67108864 := by omega
  have hj2 : j < 8 := by omega
  refine ⟨h1, by rw [Int.tdiv_eq_ediv_of_nonneg (by omega)]; exact h1, ?_, h2, by rw [Int.tmod_eq_emod_of_nonneg (by omega)]; exact h2, ?_, ?_, ?_, ?_⟩ <;> clear h1 h2 hq hj hi
  · rw [IntKind.wrap_i64]; omega
  · rw [IntKind.wrap_i64]; omega
  · rw [IntKind.wrap_u64]; omega
  · unfold wrap64; omega
  · unfold wrap64; omega
theorem set_val {X : List Bool} {i q j s m : Nat} (hl : X.length = i) (hq : q = i / 8) (hj : j = i % 8) (hs : s = 7 - j) (hm : q < m) : (rd (padB m X) (q : Int) + 2 ^ min s 8) % 256 = ((byteB X q + bw true (2 ^ s) : Nat) : Int) := by
  rw [padB_rd hm, Nat.min_eq_left (by omega)]
  have h1 := (last_byte X true).1
  have h2 : byteB (X ++ [true]) q < 256 := bsum_lt _
  rw [hl, ← hq, ← hj, ← hs] at h1
  rw [h1] at h2
  have h3 : bw true (2 ^ s) = 2 ^ s := rfl
  have h4 : ((2 : Int) ^ s) = ((2 ^ s : Nat) : Int) := by norm_cast
  rw [h3] at h2 ⊢
  rw [h4]
  generalize 2 ^ s = t at h2 ⊢
  generalize byteB X q = z at h2 ⊢
  clear h1 h3 h4 hq hj hs
  omega
theorem xbytes_calls {w : World} {base g : Nat} {F : Nat → Prop} {B : List Bool} (h : IsX w base F g B) (hl : B.length ≤ 67108864) :
    Calls Try.prog 56 #[.pointer (some ⟨g, 0, none⟩)] w fun e w' => ∃ v0, e = .returned v0 ∧ Kd.R (Kd.int .u8) 5 w' w.heap.size (fun _ => True) v0 (packB B) ∧ Below w.heap.size w w' := by
  have H := Aside0.mk h
  obtain ⟨v, h, hF⟩ := h
  obtain ⟨A, c, rfl⟩ := own_slice h.row
  have info5 : (Try.prog.info? 5).map (fun i => (i.zero, i.size, i.bytes)) = some (some (.int .u8 0), 1, 1) := by kernel_rfl
  have HR := Aside0.mk h
  have HL := Aside0.mk hl
  have cg0 : w.cell? ⟨g, 0, none⟩ = some (.slice A B.length c) := (blk_cell h.hg 0).trans rfl
  obtain ⟨n, hn⟩ : ∃ n, n = B.length := ⟨_, rfl⟩
  obtain ⟨m, hm⟩ : ∃ m, m = (n + 7) / 8 := ⟨_, rfl⟩
  have e1 : IntKind.i64.wrap ((n : Int) + 7) = (n : Int) + 7 := by rw [IntKind.wrap_i64]; omega
  have e3 : ((n : Int) + 7).tdiv 8 = (m : Int) := by rw [Int.tdiv_eq_ediv_of_nonneg (by omega)]; omega
  have e4 : ((n : Int) + 7) / 8 = (m : Int) := by omega
  have e5 : IntKind.i64.wrap (m : Int) = (m : Int) := by rw [IntKind.wrap_i64]; omega
  have e6 : wrap64 ((n : Int) + 7) = (n : Int) + 7 := by unfold wrap64; omega
  have e7 : wrap64 (m : Int) = (m : Int) := by unfold wrap64; omega
  rw [← hn] at cg0
  have HNn := Aside0.mk hn
  have HMm := Aside0.mk hm
  have mk := print_make (P := Try.prog) 22 5 .u8 1 Try.underlying22 info5 (by decide) m (by omega)
  clear h hF hl hn hm
  go_enter Try.func56, Try.ntmps56
  go_wp2_with fail
  have hs : w.heap.size < (w.alloc (Obj.cells (madeCells #[Value.int IntKind.u8 0] m) 5)).heap.size := by show _ < (w.heap.push _).size; simp
  clear mk
  go_loopg [4] (n + 1) (fun kq v4 w' => ∃ i : Nat, v4 = .int .i64 (i : Int) ∧ Aside0 (kq = n - i + 1) ∧ Aside0 (i ≤ n) ∧ Aside0 (w'.ownsRow w.heap.size 5 1 (.slice (some ⟨w.heap.size, 0, none⟩) m m) m (nums .u8 (padB m (B.take i)))) ∧ Aside0 (Below w.heap.size w w'))
  case atStart =>
    refine ⟨0, rfl, ⟨rfl⟩, ⟨Nat.zero_le _⟩, ⟨?_⟩, ⟨below_alloc (Below.refl _ _) _⟩⟩
    rw [List.take_zero, padB_nil]
    exact own_made w w.heap.size 5 .u8 m (Nat.le_refl _) (by have := HMm.out; have := HNn.out; have := HL.out; omega)
  case round =>
    obtain ⟨i, rfl, HQ, HI, HO, HBW⟩ := hrel
    clear hs
    have hR2 := HR.out.same HBW.out.size (fun k hk _ => HBW.out.block k hk)
    have HR2 := Aside0.mk hR2
    have cg1 : wr.cell? ⟨g, 0, none⟩ = some (.slice A n c) := (blk_cell hR2.hg 0).trans (by rw [HNn.out]; rfl)
    have e8 : wrap64 ((i : Int) + 1) = ((i + 1 : Nat) : Int) := by have := HI.out; have := HNn.out; have := HL.out; unfold wrap64; omega
    clear cg0 hR2
    by_cases hlt : i < n
    · have d1 : decide ((i : Int) < (n : Int)) = true := decide_eq_true (by omega)
      have d2 : decide (i < n) = true := decide_eq_true hlt
      have d3 := eq_true (show (i : Int) < (n : Int) by omega)
      have HLT := Aside0.mk hlt
      clear hlt
      obtain ⟨r, cap, ev, hgb, hgl⟩ := HR2.out.row.form (by have := HLT.out; have := HNn.out; omega)
      simp only [Value.slice.injEq] at ev
      obtain ⟨rfl, -, rfl⟩ := ev
      have cb : wr.cell? ⟨r, i, none⟩ = some (.bool (bitAt B i)) := by
        have h1 := HR2.out.row.cells (g := r) rfl i (.bool (bitAt B i)) (by have := HLT.out; have := HNn.out; simp [bools, bitAt, List.getD_eq_getElem?_getD, List.getElem?_eq_getElem (show i < B.length by omega)])
        rwa [add_plain] at h1
      have htk : B.take (i + 1) = B.take i ++ [bitAt B i] := by
        have := HLT.out; have := HNn.out
        rw [List.take_add_one]
        simp [bitAt, List.getD_eq_getElem?_getD, List.getElem?_eq_getElem (show i < B.length by omega)]
      have htl : (B.take i).length = i := by have := HLT.out; have := HNn.out; simp; omega
      have HTK := Aside0.mk htk
      have HTL := Aside0.mk htl
      clear hgb hgl htk htl
      generalize bitAt B i = b at cb HTK
      cases b with
      | false =>
        go_wp2_with fail
        go_roundg (n - (i + 1) + 1)
        case measure => exact meas_lt HQ.out HLT.out
        case rel =>
          exact ⟨i + 1, by rw [e8], ⟨rfl⟩, ⟨HLT.out⟩, ⟨by rw [HTK.out, padB_false]; exact HO.out⟩, HBW⟩
      | true =>
        obtain ⟨q, hq⟩ : ∃ q, q = i / 8 := ⟨_, rfl⟩
        obtain ⟨j, hj⟩ : ∃ j, j = i % 8 := ⟨_, rfl⟩
        obtain ⟨s, hs⟩ : ∃ s, s = 7 - j := ⟨_, rfl⟩
        obtain ⟨f1, f2, f3, f4, f5, f6, f7, f8, f9⟩ := idx_ar (by have := HLT.out; have := HNn.out; have := HL.out; omega) hq hj hs
        have hqm : q < m := by rw [hq, HMm.out]; exact lt_bytes HLT.out
        have hqm2 : (q : Int) < (m : Int) := Int.ofNat_lt.mpr hqm
        have d4 := eq_true hqm2
        obtain ⟨co, fo⟩ := own_at HO.out (q : Int) (Int.natCast_nonneg _) hqm2
        rw [Int.toNat_natCast] at co fo
        have HQQ := Aside0.mk hq
        have HJJ := Aside0.mk hj
        have HSS := Aside0.mk hs
        clear hq hj hs hqm hqm2
        go_wp2_with fail
        go_roundg (n - (i + 1) + 1)
        case measure => exact meas_lt HQ.out HLT.out
        case rel =>
          have hv : (rd (padB m (B.take i)) (q : Int) + 2 ^ min s 8) % 256 = ((byteB (B.take i) q + bw true (2 ^ s) : Nat) : Int) := set_val HTL.out HQQ.out HJJ.out HSS.out (by rw [HQQ.out, HMm.out]; exact lt_bytes HLT.out)
          obtain ⟨s1, s2⟩ := own_store HO.out (q : Int) ((rd (padB m (B.take i)) (q : Int) + 2 ^ min s 8) % 256)
          rw [Int.toNat_natCast] at s1 s2
          refine ⟨i + 1, by rw [e8], ⟨rfl⟩, ⟨HLT.out⟩, ⟨?_⟩, ⟨HBW.out.grown s2 HBW.out.size (by intro k hk; obtain rfl := Option.some.inj hk; exact Nat.le_refl _)⟩⟩
          rw [HTK.out, padB_snoc true (by rw [HTL.out, HMm.out]; exact lt_bytes HLT.out), HTL.out, ← HQQ.out, ← HJJ.out, ← HSS.out, ← hv]
          exact s1
    · have hz : i = n := by have := HI.out; omega
      have d1 : decide ((i : Int) < (n : Int)) = false := decide_eq_false (by omega)
      have d2 : decide (i < n) = false := decide_eq_false hlt
      have HZ := Aside0.mk hz
      clear hlt hz
      go_wp2_with fail
      go_ret
      refine ⟨_, rfl, Kd.R_of_own (h1 := fun _ => rfl) ?_ (fun _ _ => trivial), HBW.out⟩
      have h9 := HO.out
      rw [HZ.out, HNn.out, List.take_length] at h9
      have h8 : padB m B = packB B := by rw [HMm.out, HNn.out]; rfl
      rw [h8] at h9
      have hm2 : m = (packB B).length := by rw [packB_length, HMm.out, HNn.out]
      rw [← hm2]
      simpa [encs, nums] using h9
end Go.Proofs.Ytlhdfdedhdcmiaa.QBits
namespace Go.Proofs.Ytlhdfdedhdcmiaa.QBits
open Go.RowKit Go.Proofs.YtlhdfdedhdcmiaaW.PrintWords Go.Proofs.YtlhdfdedhdcmiaaW.PrintLast Go.Proofs.YtlhdfdedhdcmiaaW.PrintMore Go.Proofs.YtlhdfdedhdcmiaaV
set_option linter.unusedVariables false
set_option linter.unusedSimpArgs false
def writeF (o : S56) (B : List Bool) : Int × List Bool := if o.f0 = 0 then putF o.f2 o.f1 B else if o.f0 = 1 then unaryF o.f1 B else if o.f0 = 2 then riceF o.f2 o.f1 B else if o.f0 = 3 then growF o.f2 B else (0, alignB B)
theorem writeF_length (o : S56) (B : List Bool) (h : B.length ≤ 8388608) (hv : o.f2 ≤ 9223372036854775807) : (writeF o B).2.length ≤ 8388608 := by
  unfold writeF
  split
  · unfold putF; (repeat' split) <;> first | exact h | skip
    simp only [List.length_append, rawB_length]; omega
  · split
    · unfold unaryF; (repeat' split) <;> first | exact h | skip
      simp only [List.length_append, zerosB, List.length_replicate, List.length_singleton]; omega
    · split
      · unfold riceF; (repeat' split) <;> first | exact h | skip
        rename_i h1 h2 h3 h4 h5
        have h6 : 0 ≤ o.f2 / 2 ^ o.f1.toNat := Int.ediv_nonneg (by omega) (Int.pow_nonneg (by omega))
        simp only [List.length_append, zerosB, List.length_replicate, List.length_singleton, rawB_length]
        generalize o.f2 / 2 ^ o.f1.toNat = z at *
        omega
      · split
        · unfold growF; (repeat' split) <;> first | exact h | skip
          rename_i h1 h2 h3
          have h6 : 0 < Lib.bitLen (o.f2 + 1).toNat := bitLen_pos' (by omega)
          simp only [List.length_append, zerosB, List.length_replicate, List.length_singleton, rawB_length]
          generalize Lib.bitLen (o.f2 + 1).toNat = z at *
          omega
        · simp only [alignB_length]; omega
theorem write_calls {w : World} {base g : Nat} {F : Nat → Prop} {B : List Bool} (h : IsW w base F g B) (hb : base ≤ w.heap.size) (hl : B.length ≤ 8388608) (o : S56) (hv : o.f2 ≤ 9223372036854775807) :
    Calls Try.prog 52 #[.pointer (some ⟨g, 0, none⟩), .agg #[.int .i64 o.f0, .int .i64 o.f1, .int .i64 o.f2]] w fun e w' => e = .returned (.int .i64 (writeF o B).1) ∧ ∃ F', IsW w' base F' g (writeF o B).2 ∧ Moved w w' F F' := by
  have H := Aside0.mk (h.below (below_alloc (Below.refl _ _) (.cells #[.int .i64 o.f0, .int .i64 o.f1, .int .i64 o.f2] 56)))
  have HM := Aside0.mk (Moved.of_below (F := F) (below_alloc (Below.refl _ w) (.cells #[.int .i64 o.f0, .int .i64 o.f1, .int .i64 o.f2] 56)))
  have HB := Aside0.mk hb
  have HL := Aside0.mk hl
  have HV := Aside0.mk hv
  have HB2 := Aside0.mk (Nat.le_trans hb (below_alloc (Below.refl _ w) (.cells #[.int .i64 o.f0, .int .i64 o.f1, .int .i64 o.f2] 56)).size)
  clear h hb hl hv
  unfold writeF
  by_cases d0 : o.f0 = 0
  · rw [if_pos d0]
    have b0 : (o.f0 == 0) = true := beq_iff_eq.mpr d0
    clear d0
    go_enter Try.func52, Try.ntmps52
    go_wp2_with fail
    refine (put_calls H.out HB2.out HL.out o.f2 o.f1 HV.out).mono ?_
    rintro e w2 ⟨rfl, F2, I2, M2⟩
    have HI2 := Aside0.mk I2
    have HM2 := Aside0.mk (HM.out.trans M2)
    clear I2 M2
    go_wp2_with fail
    go_ret
    exact ⟨rfl, F2, HI2.out, HM2.out⟩
  rw [if_neg d0]
  have b0 : (o.f0 == 0) = false := beq_eq_false_iff_ne.mpr d0
  clear d0
  by_cases d1 : o.f0 = 1
  · rw [if_pos d1]
    have b1 : (o.f0 == 1) = true := beq_iff_eq.mpr d1
    clear d1
    go_enter Try.func52, Try.ntmps52
    go_wp2_with fail
    refine (unary_calls H.out HB2.out HL.out o.f1).mono ?_
    rintro e w2 ⟨rfl, F2, I2, M2⟩
    have HI2 := Aside0.mk I2
    have HM2 := Aside0.mk (HM.out.trans M2)
    clear I2 M2
    go_wp2_with fail
    go_ret
    exact ⟨rfl, F2, HI2.out, HM2.out⟩
  rw [if_neg d1]
  have b1 : (o.f0 == 1) = false := beq_eq_false_iff_ne.mpr d1
  clear d1
  by_cases d2 : o.f0 = 2
  · rw [if_pos d2]
    have b2 : (o.f0 == 2) = true := beq_iff_eq.mpr d2
    clear d2
    go_enter Try.func52, Try.ntmps52
    go_wp2_with fail
    refine (rice_calls H.out HB2.out HL.out o.f2 o.f1 HV.out).mono ?_
    rintro e w2 ⟨rfl, F2, I2, M2⟩
    have HI2 := Aside0.mk I2
    have HM2 := Aside0.mk (HM.out.trans M2)
    clear I2 M2
    go_wp2_with fail
    go_ret
    exact ⟨rfl, F2, HI2.out, HM2.out⟩
  rw [if_neg d2]
  have b2 : (o.f0 == 2) = false := beq_eq_false_iff_ne.mpr d2
  clear d2
  by_cases d3 : o.f0 = 3
  · rw [if_pos d3]
    have b3 : (o.f0 == 3) = true := beq_iff_eq.mpr d3
    clear d3
    go_enter Try.func52, Try.ntmps52
    go_wp2_with fail
    refine (grow_calls H.out HB2.out HL.out o.f2).mono ?_
    rintro e w2 ⟨rfl, F2, I2, M2⟩
    have HI2 := Aside0.mk I2
    have HM2 := Aside0.mk (HM.out.trans M2)
    clear I2 M2
    go_wp2_with fail
    go_ret
    exact ⟨rfl, F2, HI2.out, HM2.out⟩
  rw [if_neg d3]
  have b3 : (o.f0 == 3) = false := beq_eq_false_iff_ne.mpr d3
  clear d3
  go_enter Try.func52, Try.ntmps52
  go_wp2_with fail
  refine (align_calls H.out HB2.out HL.out).mono ?_
  rintro e w2 ⟨rfl, F2, I2, M2⟩
  have HI2 := Aside0.mk I2
  have HM2 := Aside0.mk (HM.out.trans M2)
  clear I2 M2
  go_wp2_with fail
  go_ret
  exact ⟨rfl, F2, HI2.out, HM2.out⟩
theorem written_calls {w : World} {base g : Nat} {F : Nat → Prop} {B : List Bool} (h : IsX w base F g B) (hb : base ≤ w.heap.size) (hl : B.length ≤ 8388608) (o : S56) (hv : o.f2 ≤ 9223372036854775807) :
    Calls Try.prog 53 #[.pointer (some ⟨g, 0, none⟩), .agg #[.int .i64 o.f0, .int .i64 o.f1, .int .i64 o.f2]] w fun e w' => e = .returned (.int .i64 (writeF o B).1) ∧ ∃ F', IsX w' base F' g (writeF o B).2 ∧ Moved w w' F F' := by
  have H := Aside0.mk (h.below (below_alloc (Below.refl _ _) (.cells #[.int .i64 o.f0, .int .i64 o.f1, .int .i64 o.f2] 56)))
  have HM := Aside0.mk (Moved.of_below (F := F) (below_alloc (Below.refl _ w) (.cells #[.int .i64 o.f0, .int .i64 o.f1, .int .i64 o.f2] 56)))
  have HB := Aside0.mk hb
  have HL := Aside0.mk hl
  have HV := Aside0.mk hv
  have HB2 := Aside0.mk (Nat.le_trans hb (below_alloc (Below.refl _ w) (.cells #[.int .i64 o.f0, .int .i64 o.f1, .int .i64 o.f2] 56)).size)
  clear h hb hl hv
  unfold writeF
  by_cases d0 : o.f0 = 0
  · rw [if_pos d0]
    have b0 : (o.f0 == 0) = true := beq_iff_eq.mpr d0
    clear d0
    go_enter Try.func53, Try.ntmps53
    go_wp2_with fail
    refine (xput_calls H.out HB2.out HL.out o.f2 o.f1 HV.out).mono ?_
    rintro e w2 ⟨rfl, F2, I2, M2⟩
    have HI2 := Aside0.mk I2
    have HM2 := Aside0.mk (HM.out.trans M2)
    clear I2 M2
    go_wp2_with fail
    go_ret
    exact ⟨rfl, F2, HI2.out, HM2.out⟩
  rw [if_neg d0]
  have b0 : (o.f0 == 0) = false := beq_eq_false_iff_ne.mpr d0
  clear d0
  by_cases d1 : o.f0 = 1
  · rw [if_pos d1]
    have b1 : (o.f0 == 1) = true := beq_iff_eq.mpr d1
    clear d1
    go_enter Try.func53, Try.ntmps53
    go_wp2_with fail
    refine (xunary_calls H.out HB2.out HL.out o.f1).mono ?_
    rintro e w2 ⟨rfl, F2, I2, M2⟩
    have HI2 := Aside0.mk I2
    have HM2 := Aside0.mk (HM.out.trans M2)
    clear I2 M2
    go_wp2_with fail
    go_ret
    exact ⟨rfl, F2, HI2.out, HM2.out⟩
  rw [if_neg d1]
  have b1 : (o.f0 == 1) = false := beq_eq_false_iff_ne.mpr d1
  clear d1
  by_cases d2 : o.f0 = 2
  · rw [if_pos d2]
    have b2 : (o.f0 == 2) = true := beq_iff_eq.mpr d2
    clear d2
    go_enter Try.func53, Try.ntmps53
    go_wp2_with fail
    refine (xrice_calls H.out HB2.out HL.out o.f2 o.f1 HV.out).mono ?_
    rintro e w2 ⟨rfl, F2, I2, M2⟩
    have HI2 := Aside0.mk I2
    have HM2 := Aside0.mk (HM.out.trans M2)
    clear I2 M2
    go_wp2_with fail
    go_ret
    exact ⟨rfl, F2, HI2.out, HM2.out⟩
  rw [if_neg d2]
  have b2 : (o.f0 == 2) = false := beq_eq_false_iff_ne.mpr d2
  clear d2
  by_cases d3 : o.f0 = 3
  · rw [if_pos d3]
    have b3 : (o.f0 == 3) = true := beq_iff_eq.mpr d3
    clear d3
    go_enter Try.func53, Try.ntmps53
    go_wp2_with fail
    refine (xgrow_calls H.out HB2.out HL.out o.f2).mono ?_
    rintro e w2 ⟨rfl, F2, I2, M2⟩
    have HI2 := Aside0.mk I2
    have HM2 := Aside0.mk (HM.out.trans M2)
    clear I2 M2
    go_wp2_with fail
    go_ret
    exact ⟨rfl, F2, HI2.out, HM2.out⟩
  rw [if_neg d3]
  have b3 : (o.f0 == 3) = false := beq_eq_false_iff_ne.mpr d3
  clear d3
  go_enter Try.func53, Try.ntmps53
  go_wp2_with fail
  refine (xalign_calls H.out HB2.out HL.out).mono ?_
  rintro e w2 ⟨rfl, F2, I2, M2⟩
  have HI2 := Aside0.mk I2
  have HM2 := Aside0.mk (HM.out.trans M2)
  clear I2 M2
  go_wp2_with fail
  go_ret
  exact ⟨rfl, F2, HI2.out, HM2.out⟩
/-- Both writers, and the call's number in a block of its own. -/
structure WX (w0 : World) (base g gx b : Nat) (o : S56) (W : World) (F G : Nat → Prop) (B C : List Bool) : Prop where
  w : IsW W base F g B
  x : IsX W base G gx C
  box : W.heap[b]? = some (.cells #[.int .i64 o.f0, .int .i64 o.f1, .int .i64 o.f2] 56 (0, 0))
  bel : Below base w0 W
  le : base ≤ W.heap.size
  n1 : ∀ k, F k → ¬ G k
  n2 : ¬ F b
  n3 : ¬ G b
theorem WX.stepW {w0 : World} {base g gx b : Nat} {o : S56} {W W' : World} {F G F' : Nat → Prop} {B C B' : List Bool} (h : WX w0 base g gx b o W F G B C) (hI : IsW W' base F' g B') (hM : Moved W W' F F') : WX w0 base g gx b o W' F' G B' C :=
  ⟨hI, h.x.same hM.size (fun k hk hG => hM.block k hk (fun hF => h.n1 k hF hG)), (hM.block b (blk_lt h.box) h.n2).trans h.box, h.bel.trans (hM.below (fun k hk => (h.w.ge k hk).1) h.le), Nat.le_trans h.le hM.size,
   fun k hk hG => (hM.sub k hk).elim (fun hF => h.n1 k hF hG) (fun hs => absurd (h.x.ge k hG).2 (by omega)), fun hk => (hM.sub b hk).elim h.n2 (fun hs => absurd (blk_lt h.box) (by omega)), h.n3⟩
theorem WX.stepX {w0 : World} {base g gx b : Nat} {o : S56} {W W' : World} {F G G' : Nat → Prop} {B C C' : List Bool} (h : WX w0 base g gx b o W F G B C) (hI : IsX W' base G' gx C') (hM : Moved W W' G G') : WX w0 base g gx b o W' F G' B C' :=
  ⟨h.w.same hM.size (fun k hk hF => hM.block k hk (fun hG => h.n1 k hF hG)), hI, (hM.block b (blk_lt h.box) h.n3).trans h.box, h.bel.trans (hM.below (fun k hk => (h.x.ge k hk).1) h.le), Nat.le_trans h.le hM.size,
   fun k hF hk => (hM.sub k hk).elim (fun hG => h.n1 k hF hG) (fun hs => absurd (h.w.ge k hF).2 (by omega)), h.n2, fun hk => (hM.sub b hk).elim h.n3 (fun hs => absurd (blk_lt h.box) (by omega))⟩
theorem WX.below {w0 : World} {base g gx b : Nat} {o : S56} {W W' : World} {F G : Nat → Prop} {B C : List Bool} (h : WX w0 base g gx b o W F G B C) (hb : Below W.heap.size W W') : WX w0 base g gx b o W' F G B C :=
  ⟨h.w.below hb, h.x.below hb, (hb.block b (blk_lt h.box)).trans h.box, h.bel.trans ⟨hb.os, hb.tape, hb.output, hb.size, fun k hk => hb.block k (Nat.lt_of_lt_of_le hk h.le)⟩, Nat.le_trans h.le hb.size, h.n1, h.n2, h.n3⟩
theorem WX.cells {w0 : World} {base g gx b : Nat} {o : S56} {W : World} {F G : Nat → Prop} {B C : List Bool} (h : WX w0 base g gx b o W F G B C) : W.cell? ⟨b, 0, none⟩ = some (.int .i64 o.f0) ∧ W.cell? ⟨b, 1, none⟩ = some (.int .i64 o.f1) ∧ W.cell? ⟨b, 2, none⟩ = some (.int .i64 o.f2) :=
  ⟨(blk_cell h.box 0).trans rfl, (blk_cell h.box 1).trans rfl, (blk_cell h.box 2).trans rfl⟩
theorem WX.bits {w0 : World} {base g gx b : Nat} {o : S56} {W : World} {F G : Nat → Prop} {B C : List Bool} (h : WX w0 base g gx b o W F G B C) : ∃ A c, W.cell? ⟨gx, 0, none⟩ = some (.slice A C.length c) := by
  obtain ⟨v, hx, _⟩ := h.x
  obtain ⟨A, c, rfl⟩ := own_slice hx.row
  exact ⟨A, c, (blk_cell hx.hg 0).trans rfl⟩
end Go.Proofs.Ytlhdfdedhdcmiaa.QBits
