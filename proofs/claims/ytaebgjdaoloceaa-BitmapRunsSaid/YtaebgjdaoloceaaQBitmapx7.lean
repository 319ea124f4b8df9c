/- Part of a proof: functions of the program as Lean functions, and that the machine's calls come to them. Made by a program of this session (wip/mp). -/
import Derived.Test.YtaebgjdaoloceaaQBitmapx0
import Derived.Test.YtaebgjdaoloceaaQBitmapx6
namespace Go.Proofs.Ytaebgjdaoloceaa.QBitmap
open Go.RowKit Go.Proofs.YtaebgjdaoloceaaV Go.Proofs.YtaebgjdaoloceaaW.PrintWords Go.Proofs.YtaebgjdaoloceaaW.PrintLast Go.Proofs.YtaebgjdaoloceaaW.PrintMore
attribute [local go_sem] max2_int min2_int max_two min_two max_three min_three max_four min_four   -- for this text's walks alone
set_option linter.unusedVariables false
set_option linter.unusedSimpArgs false

/-! ### slices_Repeat_int_int: function 53 -/
theorem mul_one_f (n : Int) (h0 : 0 ≤ n) (h1 : n ≤ 1099511627776) : bits_Mul.f 1 n = some (0, n) := by
  have m1 : Go.bits .and .u64 1 4294967295 = 1 := by decide +kernel
  have m0 : Go.bits .and .u64 0 4294967295 = 0 := by decide +kernel
  have m2 : Go.bits .and .u64 n 4294967295 = n % 4294967296 := by
    have := bits_mask .u64 64 (by decide) (fun n h h' => by rw [IntKind.wrap_u64]; omega) 32 (by decide) n h0 (by omega)
    simpa using this
  unfold bits_Mul.f bits_Mul64.f
  rw [m1, m2, show (1 : Int) / 4294967296 = 0 from rfl]
  simp only [Int.zero_mul, Int.one_mul, IntKind.wrap_u64, Option.bind_some]
  have e1 : (0 % 18446744073709551616 + n % 4294967296 % 18446744073709551616 / 4294967296) % 18446744073709551616 = 0 := by omega
  rw [e1, m0]
  congr 2
  · omega
  · omega
theorem rep_splice {c : Int} {k : Nat} (cur : List Value) (hc : cur.take k = List.replicate k (.int .i64 c)) (hk : k ≤ cur.length) (m : Nat) (hm : k + m ≤ cur.length) :
    (splice cur k (List.replicate m (.int .i64 c))).take (k + m) = List.replicate (k + m) (.int .i64 c) ∧ (splice cur k (List.replicate m (.int .i64 c))).length = cur.length := by
  refine ⟨?_, length_splice _ _ _ (by simp; omega)⟩
  unfold splice
  rw [hc, ← List.append_assoc, List.replicate_append_replicate]
  have := List.take_left (l₁ := List.replicate (k + m) (Value.int .i64 c)) (l₂ := List.drop (k + (List.replicate m (Value.int .i64 c)).length) cur)
  rwa [List.length_replicate] at this
set_option maxRecDepth 100000 in
set_option maxHeartbeats 2000000 in
theorem rep_calls {w : World} (A0 : Option Addr) (c0 : Nat) (l0 : List Int) (c : Int) (hl0 : l0 = [c]) (hr0 : Kd.C (Kd.int .i64) w A0 l0.length l0) (n : Int) (h0 : 1 ≤ n) (h1 : n ≤ 1099511627776) :
    Calls Try.prog 53 #[.slice A0 l0.length c0, .int .i64 n] w fun e w' => ∃ v, e = .returned v ∧ Kd.R (Kd.int .i64) 3 w' w.heap.size (fun _ => True) v (List.replicate n.toNat c) ∧ Below w.heap.size w w' := by
  subst hl0
  have info3 : (Try.prog.info? 3).map (fun i => (i.zero, i.size, i.bytes)) = some (some (.int .i64 0), 1, 8) := by kernel_rfl
  obtain ⟨i0, hi, hz0, hsz, hby⟩ := info_parts info3
  have hsz1 : (Try.prog.info? 3).map (·.size) = some 1 := by rw [hi]; simp [hsz]
  obtain ⟨N, rfl⟩ := Int.eq_ofNat_of_zero_le (show 0 ≤ n by omega)
  have HN1 : Aside0 (1 ≤ N) := ⟨by omega⟩
  have HS1 := Aside0.mk hsz1
  clear hsz1
  obtain ⟨ad, e0, x0⟩ := Kd.at_int hr0 0 (by omega) (by simp)
  cases e0
  have HX : Aside0 (w.cell? ad = some (.int .i64 c)) := ⟨x0⟩
  have e1 : IntKind.u64.wrap ((1 : Int)) = 1 := by decide +kernel
  have e2 : IntKind.u64.wrap (N : Int) = (N : Int) := by rw [IntKind.wrap_u64]; omega
  have e3 : IntKind.i64.wrap (N : Int) = (N : Int) := by rw [IntKind.wrap_i64]; omega
  have e4 : wrap64 (N : Int) = (N : Int) := by unfold wrap64; omega
  have d0 : decide ((N : Int) < 0) = false := decide_eq_false (by omega)
  have d1 : decide ((9223372036854775807 : Int) < (N : Int)) = false := decide_eq_false (by omega)
  have d2 : decide (9223372036854775807 < N) = false := decide_eq_false (by omega)
  have HN : Aside0 (N ≤ 1099511627776) := ⟨by omega⟩
  have HM := Aside0.mk (mul_one_f (N : Int) (by omega) (by omega))
  rw [Int.toNat_natCast]
  clear hr0 x0 h0 h1
  rw [show ([c] : List Int).length = 1 from rfl]
  go_enter Try.func53, Try.ntmps53
  go_wp2_with fail
  refine (bits_Mul.calls 1 (N : Int) 0 (N : Int) _ HM.out).mono ?_
  rintro e w1 ⟨rfl, ⟨n1, rfl⟩⟩
  go_wp2_with (first
    | ((with_reducible refine gate_dst (N := 30) rfl ?_); refine Kd.R_make (Kd.int .i64) (w0 := w) w.heap.size 3 rfl (N := 30) rfl 22 _ _ rfl (N : Int) rfl rfl Try.underlying22 (.int .i64 0) 8 info3 rfl (by decide) (by omega) 0 (ok := fun _ => True) (okp := fun _ => True) rfl (fun _ hk => hk) trivial (by omega) (by have := HN.out; omega) (pw_below_drewN (Below.refl _ _) n1) (Nat.le_refl _) ?_; intro v1 w4 ho hb hg hnew; have HO := Aside0.mk (Kd.own_of_R ho); have HB := Aside0.mk hb; clear ho hb hg hnew; have HX4 := Aside0.mk ((HB.out.cell (World.block_lt_of_cell? w _ HX.out)).trans HX.out); obtain ⟨ol, oc⟩ := HO.out; rcases oc with ⟨rfl, oz⟩ | ⟨g, cap, cur, rfl, og, oh, ole, olm, osz, otk⟩; (exfalso; have := HN1.out; simp at oz; omega); have OG := Aside0.mk og; have OH := Aside0.mk oh; have OLE : Aside0 (N ≤ cap ∧ cap = cur.toList.length) := ⟨⟨by simpa using ole, by rw [← Array.length_toList] at osz; omega⟩⟩; have OLM := Aside0.mk olm; clear HO ol og oh ole olm osz otk; rw [List.length_replicate, Int.toNat_natCast])
    | (refine wpList_copy_splice rfl (.tmp 31) (.tmp 32) 22 22 rfl 3 Try.underlying22 HS1.out (some ⟨g, 0, none⟩) (some ad) N cap 1 c0 rfl rfl g 0 cur.toList 3 (by simpa using OH.out) [.int .i64 c] (by have h_ := HN1.out; exact (Nat.min_eq_left h_).symm) (fun _ => ⟨rfl, ad, rfl, fun j v hj => by
        cases j with
        | zero => simp at hj; subst hj; exact HX4.out
        | succ j => simp at hj⟩) (by have h1_ := HN1.out; have h2_ := OLE.out; show 0 + 1 ≤ cur.toList.length; omega) (by simp [Value.oneCell']) w.heap.size w HB.out OG.out ?_; intro w5 hh5 hb5; have H5 := Aside0.mk hh5.out; have B5 := Aside0.mk hb5; clear hh5 hb5))
  have HK1 := rep_splice (c := c) (k := 0) cur.toList (by simp) (Nat.zero_le _) 1 (by have h1_ := HN1.out; have h2_ := OLE.out; show 0 + 1 ≤ cur.toList.length; omega)
  rw [show List.replicate 1 (Value.int .i64 c) = [.int .i64 c] from rfl, Nat.zero_add] at HK1
  have HK2 := Aside0.mk HK1
  clear HK1 e1 e2 e3 e4 d0 d1 d2
  go_loopg [8] N (fun kq v8 w' => ∃ (k : Nat) (cu : List Value), v8 = .int .i64 (k : Int) ∧ Aside0 (kq = N - k + 1) ∧ Aside0 (1 ≤ k ∧ k ≤ N) ∧ Aside0 (w'.heap[g]? = some (.cells cu.toArray 3 (0, 0))) ∧ Aside0 (cu.take k = List.replicate k (.int .i64 c) ∧ cu.length = cap) ∧ Aside0 (Below w.heap.size w w'))
  case atStart => exact ⟨1, _, rfl, ⟨by have := HN1.out; omega⟩, ⟨by have := HN1.out; omega⟩, H5, ⟨⟨HK2.out.1, by rw [HK2.out.2, OLE.out.2]⟩⟩, B5⟩
  case round =>
    obtain ⟨k, cu, rfl, HQ, HK, HH, HC, HBW⟩ := hrel
    by_cases hk : k < N
    · have x1 : decide ((k : Int) < (N : Int)) = true := decide_eq_true (by omega)
      have x2 : decide (k < N) = true := decide_eq_true hk
      obtain ⟨m, hm⟩ : ∃ m, Nat.min k (N - k) = m := ⟨_, rfl⟩
      have HM := Aside0.mk hm
      have HML : Aside0 (1 ≤ m ∧ m ≤ k ∧ k + m ≤ N) := ⟨by have := HK.out; have h2 := hm; simp only [Nat.min_def] at h2; split at h2 <;> omega⟩
      have HKN := Aside0.mk hk
      have hcut1 := cut_from (P := Try.prog) 22 3 .i64 Try.underlying22 hi 1 hsz (some ⟨g, 0, none⟩) N cap (k : Int) (by omega) (by omega)
      have hcut2 := cut_to (P := Try.prog) 22 3 .i64 Try.underlying22 hi (some ⟨g, 0, none⟩) N cap (k : Int) (by omega) (by omega) OLE.out.1
      rw [Int.toNat_natCast] at hcut2
      rw [Int.toNat_natCast, if_neg (by have := OLE.out; omega), show Option.map (fun x : Addr => x.add (k * 1)) (some ⟨g, 0, none⟩) = some ⟨g, k, none⟩ from by
          have h_ := HK.out
          simp only [Option.map_some, Nat.mul_one, Addr.add, if_neg (show ¬ k = 0 by omega), Nat.zero_add]] at hcut1
      have e5 : wrap64 ((k : Int) + (m : Int)) = ((k + m : Nat) : Int) := by have := HN.out; have := HML.out; unfold wrap64; omega
      have E7 : Aside0 (IntKind.i64.wrap ((k : Int) + (m : Int)) = ((k + m : Nat) : Int)) := ⟨by rw [IntKind.wrap_i64]; have := HN.out; have := HML.out; omega⟩
      clear hm hk
      go_wp2_with fail
      have HPOS : Aside0 (∀ (j : Nat) (v : Value), (List.replicate m (Value.int .i64 c))[j]? = some v → wr.cell? ((⟨g, 0, none⟩ : Addr).add j) = some v) := ⟨fun j v hj => by
        have hjm : j < m := by have := (List.getElem?_eq_some_iff.1 hj).1; simpa using this
        have hv : v = .int .i64 c := by simpa [List.getElem?_replicate, hjm] using hj.symm
        have e6 : (⟨g, 0, none⟩ : Addr).add j = ⟨g, j, none⟩ := by unfold Addr.add; split <;> simp_all
        rw [e6, hv]
        have h2 : cu[j]? = some (.int .i64 c) := by
          have h3 : (cu.take k)[j]? = some (.int .i64 c) := by rw [HC.out.1]; simp [List.getElem?_replicate]; have := HML.out; omega
          rwa [List.getElem?_take_of_lt (by have := HML.out; omega)] at h3
        exact (blk_cell (cs := cu.toArray) (t := 3) HH.out j).trans (by simpa using h2)⟩
      have KEEP : Aside0 (Below w.heap.size w wr.drew) := ⟨below_drew HBW.out⟩
      go_region_held3 (fun w' => Below w.heap.size w w') (first | exact KEEP.out | go_keep) (first | (refine step_copy_splice rfl (.tmp 41) (.tmp 44) 22 22 rfl 3 Try.underlying22 HS1.out (some ⟨g, k, none⟩) (some ⟨g, 0, none⟩) (N - k) (cap - k) k cap rfl rfl g k cu 3 HH.out (List.replicate m (.int .i64 c)) (by rw [List.length_replicate]; exact HM.out.symm) (fun _ => ⟨rfl, ⟨g, 0, none⟩, rfl, HPOS.out⟩) (by rw [List.length_replicate]; have h1_ := HML.out; have h2_ := HC.out.2; have h3_ := OLE.out.1; omega) (by intro v hv; rw [List.eq_of_mem_replicate hv]; rfl) w.heap.size w (by first | exact HBW.out | exact below_drew HBW.out) OG.out ?_; intro w6 hh6 hb6; have H6 := Aside0.mk hh6.out; have B6 := Aside0.mk hb6; clear hh6 hb6; rw [show goInt (List.replicate m (Value.int .i64 c)).length = .int .i64 (m : Int) from by simp [goInt]]; have KEEP := B6))
      all_goals (
        go_wp2_with fail
        go_roundg (N - (k + m) + 1)
        case measure => have := HQ.out; have := HML.out; omega
        case rel =>
          have h4 := rep_splice (c := c) (k := k) cu HC.out.1 (by have h2_ := HC.out.2; have h3_ := OLE.out.1; have h1_ := HML.out; omega) m (by have h1_ := HML.out; have h2_ := HC.out.2; have h3_ := OLE.out.1; omega)
          exact ⟨k + m, _, by first | rw [e5] | rw [E7.out], ⟨rfl⟩, ⟨by have := HML.out; omega⟩, H6, ⟨⟨h4.1, by rw [h4.2]; exact HC.out.2⟩⟩, B6⟩)
    · have x1 : decide ((k : Int) < (N : Int)) = false := decide_eq_false (by omega)
      have x2 : decide (k < N) = false := decide_eq_false hk
      have hkN : k = N := by have := HK.out; omega
      subst hkN
      clear hk
      go_wp2_with fail
      go_ret
      refine ⟨_, rfl, Kd.R_of_own (h1 := fun _ => rfl) ?_ (fun _ _ => trivial), HBW.out⟩
      rw [List.length_replicate]
      refine ⟨by simp [encs], .inr ⟨g, cap, cu.toArray, rfl, OG.out, HH.out, OLE.out.1, OLM.out, by have := HC.out.2; simp; omega, ?_⟩⟩
      simpa [encs] using HC.out.1
def slices_Repeat_int_int.f (l0 : List Int) (a1 : Int) : Option (List Int) := if l0.length = 1 then (if 1 ≤ a1 then (if a1 ≤ 1099511627776 then some (List.replicate a1.toNat (rd l0 0)) else none) else none) else none
theorem slices_Repeat_int_int.calls (A0 : Option Addr) (c0 : Nat) (l0 : List Int) (a1 : Int) (r : List Int) (w : World) (hr0 : Kd.C (Kd.int .i64) w A0 l0.length l0) (hc0 : l0.length ≤ c0) (h : slices_Repeat_int_int.f l0 a1 = some r) :
    Calls Try.prog 53 #[.slice A0 l0.length c0, .int .i64 a1] w fun e w' => ∃ v0_ : Value, e = .returned (v0_) ∧ Kd.R (Kd.int .i64) 3 w' w.heap.size (fun _ => True) v0_ r ∧ Below w.heap.size w w' := by
  unfold slices_Repeat_int_int.f at h
  by_cases h1 : l0.length = 1
  · by_cases h2 : 1 ≤ a1
    · by_cases h3 : a1 ≤ 1099511627776
      · rw [if_pos h1, if_pos h2, if_pos h3] at h
        obtain rfl := Option.some.inj h
        match l0, h1 with
        | [c], _ => exact rep_calls A0 c0 [c] c rfl hr0 a1 h2 h3
      · rw [if_pos h1, if_pos h2, if_neg h3] at h; cases h
    · rw [if_pos h1, if_neg h2] at h; cases h
  · rw [if_neg h1] at h; cases h

end Go.Proofs.Ytaebgjdaoloceaa.QBitmap
