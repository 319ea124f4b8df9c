/- A lemma file: the reference's writer of bits, as functions of lists of bits. No condition. -/
import Derived.Test.YtlhdfdedhdcmiaaPO
namespace Go.Proofs.Ytlhdfdedhdcmiaa.QBits
open Go.RowKit Go.Proofs.YtlhdfdedhdcmiaaW.PrintWords Go.Proofs.YtlhdfdedhdcmiaaW.PrintLast Go.Proofs.YtlhdfdedhdcmiaaW.PrintMore Go.Proofs.YtlhdfdedhdcmiaaV
set_option linter.unusedVariables false
set_option linter.unusedSimpArgs false
structure RawX (W : World) (base g : Nat) (v : Value) (B : List Bool) : Prop where
  hg : W.heap[g]? = some (.cells #[v] 67 (0, 0))
  row : W.ownsRow base 4 1 v B.length (bools B)
  bg : base ≤ g
def footX (g : Nat) (v : Value) : Nat → Prop := fun k => k = g ∨ v.ownBlock = some k
def IsX (W : World) (base : Nat) (F : Nat → Prop) (g : Nat) (B : List Bool) : Prop := ∃ v, RawX W base g v B ∧ F = footX g v
theorem RawX.ge {W : World} {base g : Nat} {v : Value} {B : List Bool} (h : RawX W base g v B) : ∀ k, footX g v k → base ≤ k ∧ k < W.heap.size := by
  rintro k (rfl | hk)
  · exact ⟨h.bg, blk_lt h.hg⟩
  · exact ⟨own_base h.row k hk, own_lt h.row k hk⟩
theorem IsX.ge {W : World} {base g : Nat} {F : Nat → Prop} {B : List Bool} (h : IsX W base F g B) : ∀ k, F k → base ≤ k ∧ k < W.heap.size := by
  obtain ⟨v, h, rfl⟩ := h
  exact h.ge
theorem RawX.same {W W' : World} {base g : Nat} {v : Value} {B : List Bool} (h : RawX W base g v B) (hs : W.heap.size ≤ W'.heap.size) (hb : ∀ k, k < W.heap.size → footX g v k → W'.heap[k]? = W.heap[k]?) : RawX W' base g v B := by
  refine ⟨(hb g (blk_lt h.hg) (.inl rfl)).trans h.hg, ?_, h.bg⟩
  obtain ⟨h1, h2⟩ := h.row
  refine ⟨h1, ?_⟩
  rcases h2 with h2 | ⟨r, cap, cur, rfl, hr, hh, rest⟩
  · exact .inl h2
  · exact .inr ⟨r, cap, cur, rfl, hr, (hb r (blk_lt hh) (.inr rfl)).trans hh, rest⟩
theorem IsX.same {W W' : World} {base g : Nat} {F : Nat → Prop} {B : List Bool} (h : IsX W base F g B) (hs : W.heap.size ≤ W'.heap.size) (hb : ∀ k, k < W.heap.size → F k → W'.heap[k]? = W.heap[k]?) : IsX W' base F g B := by
  obtain ⟨v, h, rfl⟩ := h
  exact ⟨v, h.same hs hb, rfl⟩
theorem IsX.below {W W' : World} {base g : Nat} {F : Nat → Prop} {B : List Bool} (h : IsX W base F g B) (hb : Below W.heap.size W W') : IsX W' base F g B := h.same hb.size (fun k hk _ => hb.block k hk)
theorem IsX.drewN {W : World} {base g : Nat} {F : Nat → Prop} {B : List Bool} (h : IsX W base F g B) (m : Nat) : IsX (W.drewN m) base F g B := h.same (Nat.le_refl _) (fun _ _ _ => rfl)
/-- A bit appended: the row behind the append, the field behind the store. -/
theorem RawX.push {w w1 : World} {base g : Nat} {v v1 : Value} {B B' : List Bool} (h : RawX w base g v B) (hown : w1.ownsRow base 4 1 v1 B'.length (bools B')) (hG : w.grownBy w1 v.ownBlock) (hat : v1.ownBlock = v.ownBlock ∨ ∃ b, v1.ownBlock = some b ∧ w.heap.size ≤ b) :
    RawX (w1.setCell ⟨g, 0, none⟩ v1) base g v1 B' ∧ Moved w (w1.setCell ⟨g, 0, none⟩ v1) (footX g v) (footX g v1) := by
  have hne : some g ≠ v.ownBlock := own_ne h.row h.hg (by decide)
  have G1 := blk_grown h.hg hG hne
  have hne1 : some g ≠ v1.ownBlock := own_ne hown G1 (by decide)
  refine ⟨⟨?_, own_setCell hown (p := ⟨g, 0, none⟩) hne1 _, h.bg⟩, ⟨hG.os, hG.tape, hG.output, by simpa [World.setCell] using hG.size, fun k hk hn => ?_, ?_⟩⟩
  · have h9 := blk_set G1 0 v1
    simp at h9
    exact h9
  · exact (Below.heap_setCell w1 ⟨g, 0, none⟩ _ k (fun e => hn (.inl e))).trans (hG.block k hk (fun e => hn (.inr e.symm)))
  · rintro k (rfl | hk)
    · exact .inl (.inl rfl)
    · rcases hat with h3 | ⟨b, h3, h4⟩
      · exact .inl (.inr (h3.symm.trans hk))
      · exact .inr (by rw [show k = b from Option.some.inj (hk.symm.trans h3)]; exact h4)
theorem bools_snoc (B : List Bool) (b : Bool) : bools B ++ [.bool b] = bools (B ++ [b]) := by simp [bools]
theorem bools_length (B : List Bool) : (bools B).length = B.length := by simp [bools]
theorem infoB : (Try.prog.info? 4).map (fun i => (i.zero, i.size, i.bytes)) = some (some (.bool false), 1, 1) := by kernel_rfl
theorem low_calls {w : World} {base g : Nat} {F : Nat → Prop} {B : List Bool} (h : IsX w base F g B) (hb : base ≤ w.heap.size) (v : Int) (n : Nat) (hv : 0 ≤ v) (hv1 : v ≤ 9223372036854775807) (hm : n ≤ 64) (hn : B.length + n < 67108864) :
    Calls Try.prog 89 #[.pointer (some ⟨g, 0, none⟩), .int .i64 v, .int .i64 (n : Int)] w fun e w' => e = .returned (.tuple #[]) ∧ ∃ F', IsX w' base F' g (B ++ rawB v n) ∧ Moved w w' F F' := by
  have H := Aside0.mk h
  have HB := Aside0.mk hb
  have HV := Aside0.mk hv
  have HV1 := Aside0.mk hv1
  have HM := Aside0.mk hm
  have HN := Aside0.mk hn
  clear h hb hv hv1 hm hn
  go_enter Try.func89, Try.ntmps89
  go_wp2_with fail
  go_loopg [6] (n + 1) (fun kq v6 w' => ∃ (m : Nat) (Fm : Nat → Prop) (Bm : List Bool), v6 = .int .i64 (IntKind.i64.wrap ((m : Int) - 1)) ∧ Aside0 (kq = m + 1) ∧ Aside0 (m ≤ n ∧ Bm ++ rawB v m = B ++ rawB v n) ∧ Aside0 (IsX w' base Fm g Bm) ∧ Aside0 (Moved w w' F Fm))
  case atStart =>
    exact ⟨n, F, B, by rw [i64_w], ⟨rfl⟩, ⟨⟨Nat.le_refl _, rfl⟩⟩, H, ⟨Moved.refl _ _⟩⟩
  case round =>
    obtain ⟨m, Fm, Bm, rfl, HQ, HE, HI, HMv⟩ := hrel
    cases m with
    | zero =>
      have e : IntKind.i64.wrap (((0 : Nat) : Int) - 1) = -1 := by decide
      rw [e]
      go_wp2_with fail
      go_end0
      have h9 := HE.out.2
      simp only [rawB, List.append_nil] at h9
      exact ⟨rfl, Fm, by rw [← h9]; exact HI.out, HMv.out⟩
    | succ m =>
      have e : IntKind.i64.wrap (((m + 1 : Nat) : Int) - 1) = (m : Int) := by have := HE.out.1; have := HM.out; rw [IntKind.wrap_i64]; omega
      rw [e]
      have sh : v / 2 ^ min m 64 = v / 2 ^ m := by have := HE.out.1; have := HM.out; rw [Nat.min_eq_left (by omega)]
      have eu : IntKind.u64.wrap (m : Int) = (m : Int) := by have := HE.out.1; have := HM.out; rw [IntKind.wrap_u64]; omega
      have hS := shr1 (m := m) HV.out HV1.out
      have HLE : Aside0 (Bm.length < 67108864) := ⟨by have h1 := congrArg List.length HE.out.2; have h2 := HE.out.1; have h3 := HN.out; simp only [List.length_append, rawB_length] at h1; omega⟩
      obtain ⟨vb, hR, hF⟩ := HI.out
      have HR := Aside0.mk hR
      have HF := Aside0.mk hF
      have cg0 : wr.cell? ⟨g, 0, none⟩ = some vb := (blk_cell hR.hg 0).trans rfl
      have fg0 := blk_frozen hR.hg 0
      obtain ⟨A, c, rfl⟩ := own_slice hR.row
      clear hR hF
      obtain ⟨bb, hbb⟩ : ∃ bb, bb = decide ((v / 2 ^ m) % 2 = 1) := ⟨_, rfl⟩
      have HBB := Aside0.mk hbb
      rw [← hbb] at hS
      clear hbb
      go_wp2_with (at_builtin; refine print_append (w0 := w) (W := wr) base rfl (.tmp 17) (.tmp 24) 65 4 (.bool false) 1 rfl Try.underlying65 infoB rfl (by decide) _ (bools Bm) _ rfl rfl rfl (by rw [bools_length]; exact HR.out.row) (HMv.out.below (fun k hk => (H.out.ge k hk).1) HB.out) (Nat.le_trans HB.out HMv.out.size) (by have := HLE.out; rw [bools_length]; omega) ?_)
      intro v1 w1 hown hB2 hG hat
      rw [bools_length, show ((bI bb == 1) : Bool) = bb from by cases bb <;> rfl, bools_snoc] at hown
      have hown2 : w1.ownsRow base 4 1 v1 (Bm ++ [bb]).length (bools (Bm ++ [bb])) := by rw [List.length_append]; exact hown
      obtain ⟨P1, P2⟩ := HR.out.push hown2 hG hat
      have G1 := blk_grown HR.out.hg hG (own_ne HR.out.row HR.out.hg (by decide))
      have cg1 : w1.cell? ⟨g, 0, none⟩ = some _ := (blk_cell G1 0).trans rfl
      have fg1 := blk_frozen G1 0
      obtain ⟨A1, c1, rfl⟩ := own_slice hown
      have HI2 := Aside0.mk (show IsX _ base _ g (Bm ++ [bb]) from ⟨_, P1, rfl⟩)
      have HM2 := Aside0.mk (HMv.out.trans (by rw [HF.out]; exact P2))
      clear hown hown2 hB2 hG hat P1 P2 G1 cg0 fg0
      go_wp2_with fail
      go_roundg (m + 1)
      case measure => have := HQ.out; omega
      case rel =>
        refine ⟨m, _, _, ?_, ⟨rfl⟩, ⟨⟨?_, ?_⟩⟩, HI2, HM2⟩
        · simp only [i64_w]
        · have := HE.out.1; omega
        · rw [← HE.out.2, List.append_assoc, HBB.out]; rfl
theorem ones_calls {w : World} {base g : Nat} {F : Nat → Prop} {B : List Bool} (h : IsX w base F g B) (hb : base ≤ w.heap.size) (n : Nat) (hm : n ≤ 9223372036854775807) (hn : B.length + n + 1 < 67108864) :
    Calls Try.prog 90 #[.pointer (some ⟨g, 0, none⟩), .int .i64 (n : Int)] w fun e w' => e = .returned (.tuple #[]) ∧ ∃ F', IsX w' base F' g (B ++ zerosB n) ∧ Moved w w' F F' := by
  have H := Aside0.mk h
  have HB := Aside0.mk hb
  have HM := Aside0.mk hm
  have HN := Aside0.mk hn
  clear h hb hm hn
  go_enter Try.func90, Try.ntmps90
  go_wp2_with fail
  go_loopg [4] (n + 1) (fun kq v5 w' => ∃ (m : Nat) (Fm : Nat → Prop) (Bm : List Bool), v5 = .int .i64 (m : Int) ∧ Aside0 (kq = n - m + 1) ∧ Aside0 (m ≤ n ∧ Bm = B ++ List.replicate m false) ∧ Aside0 (IsX w' base Fm g Bm) ∧ Aside0 (Moved w w' F Fm))
  case atStart =>
    exact ⟨0, F, B, rfl, ⟨rfl⟩, ⟨⟨Nat.zero_le _, by simp⟩⟩, H, ⟨Moved.refl _ _⟩⟩
  case round =>
    obtain ⟨m, Fm, Bm, rfl, HQ, HE, HI, HMv⟩ := hrel
    have HLE : Aside0 (Bm.length < 67108864) := ⟨by rw [HE.out.2]; have := HE.out.1; have := HN.out; simp; omega⟩
    have e3 : wrap64 ((m : Int) + 1) = ((m + 1 : Nat) : Int) := by have := HM.out; have := HN.out; have := HE.out.1; unfold wrap64; omega
    obtain ⟨vb, hR, hF⟩ := HI.out
    have HR := Aside0.mk hR
    have HF := Aside0.mk hF
    have cg0 : wr.cell? ⟨g, 0, none⟩ = some vb := (blk_cell hR.hg 0).trans rfl
    have fg0 := blk_frozen hR.hg 0
    obtain ⟨A, c, rfl⟩ := own_slice hR.row
    clear hR hF
    by_cases hlt : m < n
    · have e1 : decide ((m : Int) < (n : Int)) = true := decide_eq_true (by omega)
      have e2 : decide (m < n) = true := decide_eq_true hlt
      have HLT := Aside0.mk hlt
      clear hlt
      go_wp2_with (at_builtin; refine print_append (w0 := w) (W := wr) base rfl (.tmp 14) (.tmp 15) 65 4 (.bool false) 1 rfl Try.underlying65 infoB rfl (by decide) _ (bools Bm) _ rfl rfl rfl (by rw [bools_length]; exact HR.out.row) (HMv.out.below (fun k hk => (H.out.ge k hk).1) HB.out) (Nat.le_trans HB.out HMv.out.size) (by have := HLE.out; rw [bools_length]; omega) ?_)
      intro v1 w1 hown hB2 hG hat
      rw [bools_length, bools_snoc] at hown
      have hown2 : w1.ownsRow base 4 1 v1 (Bm ++ [false]).length (bools (Bm ++ [false])) := by rw [List.length_append]; exact hown
      obtain ⟨P1, P2⟩ := HR.out.push hown2 hG hat
      have G1 := blk_grown HR.out.hg hG (own_ne HR.out.row HR.out.hg (by decide))
      have cg1 : w1.cell? ⟨g, 0, none⟩ = some _ := (blk_cell G1 0).trans rfl
      have fg1 := blk_frozen G1 0
      obtain ⟨A1, c1, rfl⟩ := own_slice hown
      have HI2 := Aside0.mk (show IsX _ base _ g (Bm ++ [false]) from ⟨_, P1, rfl⟩)
      have HM2 := Aside0.mk (HMv.out.trans (by rw [HF.out]; exact P2))
      clear hown hown2 hB2 hG hat P1 P2 G1 cg0 fg0
      go_wp2_with fail
      go_roundg (n - (m + 1) + 1)
      case measure => have := HQ.out; have := HLT.out; omega
      case rel =>
        refine ⟨m + 1, _, _, by rw [e3], ⟨rfl⟩, ⟨⟨HLT.out, ?_⟩⟩, HI2, HM2⟩
        rw [HE.out.2, List.append_assoc, List.replicate_succ']
    · have hz : m = n := by have := HE.out.1; omega
      subst hz
      have e1 : decide ((m : Int) < (m : Int)) = false := by simp
      have e2 : decide (m < m) = false := by simp
      clear hlt
      go_wp2_with (at_builtin; refine print_append (w0 := w) (W := wr) base rfl (.tmp 23) (.tmp 24) 65 4 (.bool false) 1 rfl Try.underlying65 infoB rfl (by decide) _ (bools Bm) _ rfl rfl rfl (by rw [bools_length]; exact HR.out.row) (HMv.out.below (fun k hk => (H.out.ge k hk).1) HB.out) (Nat.le_trans HB.out HMv.out.size) (by have := HLE.out; rw [bools_length]; omega) ?_)
      intro v1 w1 hown hB2 hG hat
      rw [bools_length, bools_snoc] at hown
      have hown2 : w1.ownsRow base 4 1 v1 (Bm ++ [true]).length (bools (Bm ++ [true])) := by rw [List.length_append]; exact hown
      obtain ⟨P1, P2⟩ := HR.out.push hown2 hG hat
      have G1 := blk_grown HR.out.hg hG (own_ne HR.out.row HR.out.hg (by decide))
      have cg1 : w1.cell? ⟨g, 0, none⟩ = some _ := (blk_cell G1 0).trans rfl
      have fg1 := blk_frozen G1 0
      obtain ⟨A1, c1, rfl⟩ := own_slice hown
      have HI2 := Aside0.mk (show IsX _ base _ g (Bm ++ [true]) from ⟨_, P1, rfl⟩)
      have HM2 := Aside0.mk (HMv.out.trans (by rw [HF.out]; exact P2))
      clear hown hown2 hB2 hG hat P1 P2 G1 cg0 fg0
      go_wp2_with fail
      go_end0
      refine ⟨rfl, _, ?_, HM2.out⟩
      have h9 : Bm ++ [true] = B ++ zerosB m := by rw [HE.out.2, List.append_assoc]; rfl
      rw [← h9]
      exact HI2.out
end Go.Proofs.Ytlhdfdedhdcmiaa.QBits
